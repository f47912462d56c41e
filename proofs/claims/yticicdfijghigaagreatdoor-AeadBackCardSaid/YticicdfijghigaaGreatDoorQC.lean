/- The symbolic executor, twenty-first text: names of blocks, given anew. -/
import Derived.Laws.Externs
import Derived.Deep.LoopGhost
import Derived.Test.YticicdfijghigaaGreatDoorProg
import Derived.KernelRfl
import Derived.Test.YticicdfijghigaaGreatDoorQB
open Go
set_option maxRecDepth 100000
namespace Go.Proofs.YticicdfijghigaaGreatDoor.Sx
mutual
def wU (ρ : Nat->Option Nat):SV->Option SV
 | .int s k n=>some (.int s k n)
 | .bool s b=>some (.bool s b)
 | .ptr l s off=>match ρ l with
   | some l=>some (.ptr l s off)
   | none=>none
 | .aG l s off len cap=>match ρ l with
   | some l=>some (.aG l s off len cap)
   | none=>none
 | .agg vs=>match zB ρ vs with
   | some vs=>some (.agg vs)
   | none=>none
 | .eL vs=>match zB ρ vs with
   | some vs=>some (.eL vs)
   | none=>none
 | .fn f xs ys=>match zB ρ xs,zB ρ ys with
   | some xs,some ys=>some (.fn f xs ys)
   | _,_=>none
 | .sH t v=>match wU ρ v with
   | some v=>some (.sH t v)
   | none=>none
 | .raw v=>some (.raw v)
 | .ai k xs=>some (.ai k xs)
 | .buf l=>match ρ l with
   | some l=>some (.buf l)
   | none=>none
 | .jH l off=>match ρ l with
   | some l=>some (.jH l off)
   | none=>none
 | .mS l lo hi=>match ρ l with
   | some l=>some (.mS l lo hi)
   | none=>none
 | .eV l n=>match ρ l with
   | some l=>some (.eV l n)
   | none=>none
 | .cP l off len lo=>match ρ l with
   | some l=>some (.cP l off len lo)
   | none=>none
 | .Ub l n cap sz j le=>match ρ l,ρ le with
   | some l,some le=>some (.Ub l n cap sz j le)
   | _,_=>none
 | .sP l n=>match ρ l with
   | some l=>some (.sP l n)
   | none=>none
 | .wT l i n=>match ρ l with
   | some l=>some (.wT l i n)
   | none=>none
 | .BZ l i=>match ρ l with
   | some l=>some (.BZ l i)
   | none=>none
def zB (ρ : Nat->Option Nat):List SV->Option (List SV)
 | []=>some []
 | v::r=>match wU ρ v,zB ρ r with
   | some v,some r=>some (v::r)
   | _,_=>none
end
def uO (ρ : Nat->Option Nat) (V V':aY):Prop:=∀ l l',ρ l=some l'->(∀ p,V.β l=some p->V'.β l'=some p)/\(∀ v,V.σ l=some v->V'.σ l'=some v)
mutual
theorem xF {ρ : Nat->Option Nat} {V V':aY} (h:uO ρ V V'):∀ {v v':SV} {x:Value},wU ρ v=some v'->den V v=some x->den V' v'=some x
 | .int ..,v',x,hr,hd=>by simp only [wU,aU] at hr;subst hr;exact hd
 | .bool ..,v',x,hr,hd=>by simp only [wU,aU] at hr;subst hr;exact hd
 | .ai ..,v',x,hr,hd=>by simp only [wU,aU] at hr;subst hr;exact hd
 | .ptr l s off,v',x,hr,hd=>by
   simp only [wU] at hr
   split at hr
   .rename_i l' hl
    cases hr
    simp only [den,Option.map_eq_some_iff] at hd |-
    obtain ⟨p,hp,rfl⟩:=hd
    exact ⟨p,(h l l' hl).1 p hp,rfl⟩
   .cases hr
 | .aG l s off len cap,v',x,hr,hd=>by
   simp only [wU] at hr
   split at hr
   .rename_i l' hl
    cases hr
    simp only [den,Option.map_eq_some_iff] at hd |-
    obtain ⟨p,hp,rfl⟩:=hd
    exact ⟨p,(h l l' hl).1 p hp,rfl⟩
   .cases hr
 | .agg vs,v',x,hr,hd=>by
   simp only [wU] at hr
   split at hr
   .rename_i Kl hl
    cases hr
    simp only [den,Option.map_eq_some_iff] at hd |-
    obtain ⟨p,hp,rfl⟩:=hd
    exact ⟨p,lN h hl hp,rfl⟩
   .cases hr
 | .eL vs,v',x,hr,hd=>by
   simp only [wU] at hr
   split at hr
   .rename_i Kl hl
    cases hr
    simp only [den,Option.map_eq_some_iff] at hd |-
    obtain ⟨p,hp,rfl⟩:=hd
    exact ⟨p,lN h hl hp,rfl⟩
   .cases hr
 | .fn f xs ys,v',x,hr,hd=>by
   simp only [wU] at hr
   split at hr
   .rename_i iR ys' h1 h2
    cases hr
    simp only [den,Option.map_eq_some_iff,Option.bind_eq_some_iff] at hd |-
    obtain ⟨p,hp,q,hq,rfl⟩:=hd
    exact ⟨p,lN h h1 hp,q,lN h h2 hq,rfl⟩
   .cases hr
 | .sH t v,v',x,hr,hd=>by
   simp only [wU] at hr
   split at hr
   .rename_i u hl
    cases hr
    simp only [den,Option.map_eq_some_iff] at hd |-
    obtain ⟨p,hp,rfl⟩:=hd
    exact ⟨p,xF h hl hp,rfl⟩
   .cases hr
 | .raw v,v',x,hr,hd=>by simp only [wU,aU] at hr;subst hr;exact hd
 | .sP l n,v',x,hr,hd=>by
   simp only [wU] at hr
   split at hr
   .rename_i l' hl
    cases hr
    simp only [den,Option.bind_eq_some_iff] at hd |-
    obtain ⟨u,hu,e⟩:=hd
    exact ⟨u,(h l l' hl).2 u hu,e⟩
   .cases hr
 | .wT l i n,v',x,hr,hd=>by
   simp only [wU] at hr
   split at hr
   .rename_i l' hl
    cases hr
    simp only [den,Option.bind_eq_some_iff] at hd |-
    obtain ⟨u,hu,e⟩:=hd
    exact ⟨u,(h l l' hl).2 u hu,e⟩
   .cases hr
 | .BZ l i,v',x,hr,hd=>by
   simp only [wU] at hr
   split at hr
   .rename_i l' hl
    cases hr
    simp only [den,Option.bind_eq_some_iff] at hd |-
    obtain ⟨u,hu,e⟩:=hd
    exact ⟨u,(h l l' hl).2 u hu,e⟩
   .cases hr
 | .Ub l n cap sz j le,v',x,hr,hd=>by
   simp only [wU] at hr
   split at hr
   .rename_i l1 l2 CE sJ
    cases hr
    simp only [den,Option.bind_eq_some_iff] at hd |-
    obtain ⟨p,hp,q,hq,e⟩:=hd
    exact ⟨p,(h l l1 CE).1 p hp,q,(h le l2 sJ).1 q hq,e⟩
   .cases hr
 | .buf l,v',x,hr,hd=>by
   simp only [wU] at hr
   split at hr
   .rename_i l' hl;cases hr;simp only [den] at hd |-;exact (h l l' hl).2 x hd
   .cases hr
 | .jH l off,v',x,hr,hd=>by
   simp only [wU] at hr
   split at hr
   .rename_i l' hl
    cases hr
    simp only [den] at hd |-
    split at hd
    .rename_i hs;rw [(h l l' hl).2 _ hs];exact hd
    .cases hd
   .cases hr
 | .mS l lo hi,v',x,hr,hd=>by
   simp only [wU] at hr
   split at hr
   .rename_i l' hl
    cases hr
    simp only [den] at hd |-
    split at hd
    .rename_i hs;rw [(h l l' hl).2 _ hs];exact hd
    .cases hd
   .cases hr
 | .eV l n,v',x,hr,hd=>by
   simp only [wU] at hr
   split at hr
   .rename_i l' hl
    cases hr
    simp only [den,Option.bind_eq_some_iff] at hd |-
    obtain ⟨v,hv,hx⟩:=hd
    exact ⟨v,(h l l' hl).2 _ hv,hx⟩
   .cases hr
 | .cP l off len lo,v',x,hr,hd=>by
   simp only [wU] at hr
   split at hr
   .rename_i l' hl
    cases hr
    simp only [den,Option.map_eq_some_iff,Option.bind_eq_some_iff] at hd |-
    obtain ⟨p,hp,c,hc,rfl⟩:=hd
    refine ⟨p,(h l l' hl).1 p hp,c,?_,rfl⟩
    cases hs:V.σ l with
    | none=>rw [hs] at hc;cases hc
    | some v=>rw [(h l l' hl).2 v hs,<- hs];exact hc
   .cases hr
theorem lN {ρ : Nat->Option Nat} {V V':aY} (h:uO ρ V V'):∀ {vs Kl:List SV} {xs:List Value},zB ρ vs=some Kl->aE V vs=some xs->aE V' Kl=some xs
 | [],Kl,xs,hr,hd=>by simp only [zB,aU] at hr;subst hr;simpa [aE] using hd
 | v::r,Kl,xs,hr,hd=>by
   simp only [zB] at hr
   split at hr
   .rename_i v' r' h1 h2
    cases hr
    simp only [aE,Option.map_eq_some_iff,Option.bind_eq_some_iff] at hd |-
    obtain ⟨x,hx,ys,hy,rfl⟩:=hd
    exact ⟨x,xF h h1 hx,ys,lN h h2 hy,rfl⟩
   .cases hr
end
def uE (ρ : Nat->Option Nat):SB->Option SB
 | .own cs ty=>match zB ρ cs with
   | some cs=>some (.own cs ty)
   | none=>none
 | .row sz cs ty=>match zB ρ cs with
   | some cs=>some (.row sz cs ty)
   | none=>none
 | .iS pre l ds ty=>match zB ρ pre,ρ l with
   | some pre,some l=>some (.iS pre l ds ty)
   | _,_=>none
 | .ints k xs ty=>some (.ints k xs ty)
 | .cT k xs ty=>some (.cT k xs ty)
 | .fT sz n ty=>some (.fT sz n ty)
 | .eM xs ty=>some (.eM xs ty)
 | .eJ vs ty=>some (.eJ vs ty)
 | .gone=>some .gone
 | _=>none
theorem Xk {ρ : Nat->Option Nat} {V V':aY} (h:uO ρ V V') {l l':Nat} (hl : ρ l=some l'):∀ {i:Nat} {ds:List (List Int)} {us:List Value},aE V (Ec l i ds)=some us->aE V' (Ec l' i ds)=some us
 | _,[],_,e=>e
 | i,d::r,us,e=>by
   simp only [Ec,aE,Option.map_eq_some_iff,Option.bind_eq_some_iff] at e |-
   obtain ⟨x,hx,ys,hy,rfl⟩:=e
   exact ⟨x,xF h (v:=.wT l i d.length) (by simp only [wU,hl]) hx,ys,Xk h hl hy,rfl⟩
theorem pQ {V:aY}:∀ {a b:List SV} {xs:List Value},aE V (a++b)=some xs->∃ ys zs,aE V a=some ys/\aE V b=some zs/\xs=ys++zs
 | [],b,xs,h=>⟨[],xs,rfl,h,rfl⟩
 | v::a,b,xs,h=>by
   simp only [List.cons_append,aE,Option.map_eq_some_iff,Option.bind_eq_some_iff] at h
   obtain ⟨x,hx,ws,hw,rfl⟩:=h
   obtain ⟨ys,zs,h1,h2,rfl⟩:=pQ hw
   exact ⟨x::ys,zs,by simp only [aE,hx,h1,Option.bind_some,Option.map_some],h2,rfl⟩
theorem qY {ρ : Nat->Option Nat} {V V':aY} (h:uO ρ V V') {w:World} {l l':Nat} {B B':SB} (hl : ρ l=some l') (hr:uE ρ B=some B') (lS:okB V w l B) :
 okB V' w l' B'/\(∀ n,B'.aN V' l'=some n->B.aN V l=some n)/\(∀ n,B.aN V l=some n->B'.aN V' l'=some n)/\B'.owned=B.owned:=by
 obtain ⟨h1,h2⟩:=h l l' hl
 obtain ⟨cs,hc,hk⟩:=lS
 cases B with
 | own cells ty=>
   simp only [uE] at hr
   split at hr
   .rename_i cs' lW
    cases hr
    obtain ⟨b,hb,hh⟩:=hk
    have iE:=h1 _ hb
    exact ⟨⟨cs,lN h lW hc,b,iE,hh⟩,fun n hn=>by simpa [SB.aN,hb,iE] using hn,fun n hn=>by simpa [SB.aN,hb,iE] using hn,rfl⟩
   .cases hr
 | row sz cells ty=>
   simp only [uE] at hr
   split at hr
   .rename_i cs' lW
    cases hr
    obtain ⟨b,cap,cur,hb,hσ,r⟩:=hk
    have iE:=h1 _ hb
    exact ⟨⟨cs,lN h lW hc,b,cap,cur,iE,h2 _ hσ,r⟩,fun n hn=>by simpa [SB.aN,hb,iE] using hn,fun n hn=>by simpa [SB.aN,hb,iE] using hn,rfl⟩
   .cases hr
 | ints k xs ty=>
   cases hr
   obtain ⟨b,hb,hh⟩:=hk
   have iE:=h1 _ hb
   exact ⟨⟨cs,hc,b,iE,hh⟩,fun n hn=>by simpa [SB.aN,hb,iE] using hn,fun n hn=>by simpa [SB.aN,hb,iE] using hn,rfl⟩
 | eJ vs ty=>
   cases hr
   obtain ⟨b,hb,hh⟩:=hk
   have iE:=h1 _ hb
   exact ⟨⟨cs,hc,b,iE,hh⟩,fun n hn=>by simpa [SB.aN,hb,iE] using hn,fun n hn=>by simpa [SB.aN,hb,iE] using hn,rfl⟩
 | cT k xs ty=>
   cases hr
   obtain ⟨v,hσ,hh⟩:=hk
   have fU:=h2 _ hσ
   exact ⟨⟨cs,hc,v,fU,hh⟩,fun n hn=>by simpa [SB.aN,hσ,fU] using hn,fun n hn=>by simpa [SB.aN,hσ,fU] using hn,rfl⟩
 | fT sz n ty=>
   cases hr
   obtain ⟨v,us,hσ,hh⟩:=hk
   have fU:=h2 _ hσ
   exact ⟨⟨cs,hc,v,us,fU,hh⟩,fun n hn=>by simpa [SB.aN,hσ,fU] using hn,fun n hn=>by simpa [SB.aN,hσ,fU] using hn,rfl⟩
 | fP cells=>cases hr
 | nM k xs=>cases hr
 | gQ k xs=>cases hr
 | iS pre k ds ty=>
   simp only [uE] at hr
   split at hr
   .rename_i DQ k' hp gW
    cases hr
    obtain ⟨b,cap,cur,hb,hσ,r⟩:=hk
    have iE:=h1 _ hb
    obtain ⟨ys,zs,e1,e2,rfl⟩:=pQ (show aE V (pre++Ec k 0 ds)=some cs from hc)
    exact ⟨⟨_,cF (lN h hp e1) (Xk h gW e2),b,cap,cur,iE,h2 _ hσ,r⟩,fun n hn=>by simpa [SB.aN,hb,iE] using hn,fun n hn=>by simpa [SB.aN,hb,iE] using hn,rfl⟩
   .cases hr
 | lU ds=>cases hr
 | nH d=>cases hr
 | fI ds ty=>cases hr
 | qI xs=>cases hr
 | gK ds z=>cases hr
 | eM xs ty=>
   cases hr
   obtain ⟨v,hσ,hh⟩:=hk
   have fU:=h2 _ hσ
   exact ⟨⟨cs,hc,v,fU,hh⟩,fun n hn=>by simpa [SB.aN,hσ,fU] using hn,fun n hn=>by simpa [SB.aN,hσ,fU] using hn,rfl⟩
 | gone=>
   cases hr
   exact ⟨⟨[],rfl,trivial⟩,fun n hn=>by simp [SB.aN] at hn,fun n hn=>by simp [SB.aN] at hn,rfl⟩
theorem qX {ρ : Nat->Option Nat} {B B':SB} (h:uE ρ B=some B'):(B'.owned=true/\B'.plain=true)\/B' = .gone:=by
 cases B <;> simp only [uE] at h <;> first | (cases h;done) | skip
 .split at h
  .cases h;exact .inl ⟨rfl,rfl⟩
  .cases h
 .cases h;exact .inl ⟨rfl,rfl⟩
 .cases h;exact .inl ⟨rfl,rfl⟩
 .split at h
  .cases h;exact .inl ⟨rfl,rfl⟩
  .cases h
 .cases h;exact .inl ⟨rfl,rfl⟩
 .cases h;exact .inl ⟨rfl,rfl⟩
 .split at h
  .cases h;exact .inl ⟨rfl,rfl⟩
  .cases h
 .cases h;exact .inl ⟨rfl,rfl⟩
 .cases h;exact .inr rfl
def jV (V:aY) (T:aZ) (n:Nat):Prop:=∃ l B,T l=some B/\B.owned=true/\B.aN V l=some n
theorem aC.part {w0 w:World} {M:Nat->Prop} {V:aY} {T T2:aZ} (h:aC w0 M V T2 w) (aL:∀ l B,T l=some B->T2 l=some B):aC w (jV V T) V T w:=
 ⟨fun l B hl=>h.ok l B (aL l B hl),fun l B l' B' n dD hl rK=>h.jN l B l' B' n dD (aL l B hl) (aL l' B' rK),fun l B _ hl ho hb=>.inr ⟨l,B,hl,ho,hb⟩,fK.refl w _,
  fun l B hl=>(h.sL l B (aL l B hl)).gG h.frame fun n ⟨l1,B1,h1,h2,h3⟩=>h.perm l1 B1 n (aL l1 B1 h1) h2 h3⟩
theorem aC.called {w0 w w':World} {M:Nat->Prop} {V V1 V2:aY} {T T2 Tf T':aZ} (h:aC w0 M V T2 w) (aL:∀ l B,T l=some B->T2 l=some B)
 (hf:aC w (jV V T) V1 Tf w') (hV:V.le V2) (src:Nat->Option Nat)
 (oE:∀ l B,T' l=some B->(∃ k,src l=some k/\∃ C,Tf k=some C/\okB V2 w' l B/\(∀ n,B.aN V2 l=some n->C.aN V1 k=some n)/\B.owned=C.owned/\((B.owned=true/\B.plain=true)\/B = .gone\/T2 l=some B))\/(src l=none/\T l=none/\T2 l=some B))
 (aZc:∀ l l' k,src l=some k->src l'=some k->l=l'):aC w0 M V2 T' w':=by
 have fA:∀ l B n,T2 l=some B->B.aN V2 l=some n->B.aN V l=some n:=fun l B n hl hb=>by rwa [(h.ok l B hl).tK hV] at hb
 have Ea:∀ l B n,T l=none->T2 l=some B->B.aN V l=some n->¬ jV V T n:=by
  rintro l B n h1 h2 h3 ⟨l1,B1,h4,h5,h6⟩
  have dD:l1≠l:=fun e=>by subst e;rw [h1] at h4;cases h4
  exact h.jN l1 B1 l B n dD (aL l1 B1 h4) h2 h5 h6 h3
 have Yt:∀ l B n,T l=none->T2 l=some B->B.aN V l=some n->∀ k C,Tf k=some C->C.owned=true->C.aN V1 k≠some n:=by
  intro l B n h1 h2 h3 k C hk ho hb
  have cI:=(h.ok l B h2).lt h3
  rcases hf.perm k C n hk ho hb with RG | hm
  .omega
  .exact Ea l B n h1 h2 h3 hm
 refine ⟨fun l B hl=>?_,fun l B l' B' n dD hl rK ho hb iE=>?_,fun l B n hl ho hb=>?_,?_,fun l B hl=>?_⟩
 .rcases oE l B hl with ⟨k,_,C,_,lS,_⟩ | ⟨_,h1,h2⟩
  .exact lS
  .refine (h.ok l B h2).gG hV hf.frame.size fun n hn=>?_
   exact hf.frame.block n ((h.ok l B h2).lt hn) (Ea l B n h1 h2 hn)
 .rcases oE l B hl with ⟨k,hk,C,hC,_,Kp,hoC,fJ⟩ | ⟨hk,h1,h2⟩ <;> rcases oE l' B' rK with ⟨k',gW,C',hC',_,Yw,aYz,GQ⟩ | ⟨gW,Ei,CH⟩
  .have Ao:k≠k':=fun e=>dD (aZc l l' k hk (e ▸ gW))
   exact hf.jN k C k' C' n Ao hC hC' (hoC ▸ ho) (Kp n hb) (Yw n iE)
  .exact Yt l' B' n Ei CH (fA l' B' n CH iE) k C hC (hoC ▸ ho) (Kp n hb)
  .rcases GQ with GQ | rfl | aPg
   .exact Yt l B n h1 h2 (fA l B n h2 hb) k' C' hC' (aYz ▸ GQ.1) (Yw n iE)
   .simp [SB.aN] at iE
   .exact h.jN l B l' B' n dD h2 aPg ho (fA l B n h2 hb) (fA l' B' n aPg iE)
  .exact h.jN l B l' B' n dD h2 CH ho (fA l B n h2 hb) (fA l' B' n CH iE)
 .rcases oE l B hl with ⟨k,hk,C,hC,_,Kp,hoC,fJ⟩ | ⟨hk,h1,h2⟩
  .rcases hf.perm k C n hC (hoC ▸ ho) (Kp n hb) with RG | ⟨l1,B1,h4,h5,h6⟩
   .have:=h.frame.size;left;omega
   .exact h.perm l1 B1 n (aL l1 B1 h4) h5 h6
  .exact h.perm l B n h2 ho (fA l B n h2 hb)
 .refine h.frame.trans hf.frame fun n hn ⟨l1,B1,h4,h5,h6⟩=>?_
  rcases h.perm l1 B1 n (aL l1 B1 h4) h5 h6 with RG | hm
  .omega
  .exact hm
 .rcases oE l B hl with ⟨_,_,_,_,_,_,_,fJ | rfl | h2⟩ | ⟨_,_,h2⟩
  .exact cV fJ.2
  .trivial
  .exact (h.sL l B h2).le hV
  .exact (h.sL l B h2).le hV
def bH (F:Nat) (T:aZ):aZ:=fun l=>match Nat.blt l F with
 | true=>T l
 | false=>none
theorem kX {F:Nat} {T:aZ} {l:Nat} {B:SB} (h:bH F T l=some B):l<F/\T l=some B:=by
 unfold bH at h
 split at h
 .rename_i hb;exact ⟨by simpa [Nat.blt_eq] using hb,h⟩
 .cases h
noncomputable def Bv:List SV->Nat->Tr SV->Option (Tr SV)
 | [],_,t=>some t
 | v::r,i,t=>match Tr.put v 64 t i with
   | some t=>Bv r (i+1) t
   | none=>none
theorem xU:∀ {vs:List SV} {i:Nat} {t t':Tr SV},Bv vs i t=some t'->∀ m,t'.get m=if i<=m/\m<i+vs.length then vs[m-i]? else t.get m
 | [],i,t,t',h,m=>by
   simp only [Bv,aU] at h
   subst h
   rw [if_neg (by simp)]
 | v::r,i,t,t',h,m=>by
   simp only [Bv] at h
   split at h
   .rename_i t1 h1
    rw [xU h m]
    by_cases e:m=i
    .subst e
     rw [if_neg (by omega),Tr.hY _ _ _ _ _ h1,if_pos rfl,if_pos (by simp)]
     simp
    .by_cases e2:i+1<=m/\m<i+1+r.length
     .rw [if_pos e2,if_pos (by simp;omega),show m-i=(m-(i+1))+1 from by omega]
      simp
     .rw [if_neg e2,Tr.hY _ _ _ _ _ h1,if_neg e,if_neg (by simp;omega)]
   .cases h
mutual
def eO:SV->List Nat
 | .ptr l _ _=>[l]
 | .aG l _ _ _ _=>[l]
 | .agg vs=>Bs vs
 | .eL vs=>Bs vs
 | .fn _ xs ys=>Bs xs++Bs ys
 | .sH _ v=>eO v
 | .buf l=>[l]
 | .jH l _=>[l]
 | .mS l _ _=>[l]
 | .eV l _=>[l]
 | .Ub l _ _ _ _ le=>[l,le]
 | .cP l _ _ _=>[l]
 | _=>[]
def Bs:List SV->List Nat
 | []=>[]
 | v::r=>eO v++Bs r
end
def GL:SB->List Nat
 | .own cs _=>Bs cs
 | .row _ cs _=>Bs cs
 | _=>[]
noncomputable def reach (F:Nat) (tb:Tr SB):Nat->List Nat->List Nat->List Nat
 | 0,_,acc=>acc
 | _+1,[],acc=>acc
 | f+1,l::r,acc=>match Nat.blt l F||acc.elem l with
   | true=>reach F tb f r acc
   | false=>match tb.get l with
     | some B=>reach F tb f (GL B++r) (acc++[l])
     | none=>reach F tb f r acc
def Ep (l:Nat):List Nat->Nat->Option Nat
 | [],_=>none
 | k::r,i=>match Nat.beq k l with
   | true=>some i
   | false=>Ep l r (i+1)
theorem vA {l:Nat}:∀ {ls:List Nat} {i j:Nat},Ep l ls i=some j->i<=j/\ls[j-i]?=some l
 | [],i,j,h=>by cases h
 | k::r,i,j,h=>by
   simp only [Ep] at h
   split at h
   .rename_i hb
    cases h
    have:=cH hb
    subst this
    simp
   .obtain ⟨h1,h2⟩:=vA h
    refine ⟨by omega,?_⟩
    rw [show j-i=(j-(i+1))+1 from by omega]
    simpa using h2
def Fy:List Nat->Bool
 | []=>true
 | k::r=>match r.elem k with
   | true=>false
   | false=>Fy r
theorem vZ:∀ {ls:List Nat},Fy ls=true->∀ {i j k:Nat},ls[i]?=some k->ls[j]?=some k->i=j
 | [],_,i,j,k,hi,_=>by simp at hi
 | a::r,h,i,j,k,hi,hj=>by
   simp only [Fy] at h
   split at h
   .cases h
   .rename_i hn
    have hn:a ∉ r:=by simpa using hn
    cases i with
    | zero=>
      simp only [List.getElem?_cons_zero,aU] at hi
      subst hi
      cases j with
      | zero=>rfl
      | succ j=>simp only [List.getElem?_cons_succ] at hj;exact absurd (List.mem_of_getElem? hj) hn
    | succ i=>
      simp only [List.getElem?_cons_succ] at hi
      cases j with
      | zero=>simp only [List.getElem?_cons_zero,aU] at hj;subst hj;exact absurd (List.mem_of_getElem? hi) hn
      | succ j=>simp only [List.getElem?_cons_succ] at hj;rw [vZ h hi hj]
def nm (F lab:Nat) (ls:List Nat) (l:Nat):Option Nat:=match Nat.blt l F with
 | true=>some l
 | false=>match Ep l ls 0 with
   | some i=>some (lab+i)
   | none=>none
noncomputable def tB (ρ : Nat->Option Nat) (tb:Tr SB):List Nat->Option (List SB)
 | []=>some []
 | l::r=>match tb.get l with
   | some B=>match uE ρ B,tB ρ tb r with
     | some B,some bs=>some (B::bs)
     | _,_=>none
   | none=>none
theorem tR {ρ : Nat->Option Nat} {tb:Tr SB}:∀ {ls:List Nat} {bs:List SB},tB ρ tb ls=some bs->bs.length=ls.length/\∀ (i:Nat) (B:SB),bs[i]?=some B->∃ (l:Nat) (C:SB),ls[i]?=some l/\tb.get l=some C/\uE ρ C=some B
 | [],bs,h=>by simp only [tB,aU] at h;subst h;simp
 | l::r,bs,h=>by
   simp only [tB] at h
   split at h
   .rename_i C hC
    split at h
    .rename_i B' bs' hB RI
     cases h
     obtain ⟨h1,h2⟩:=tR RI
     refine ⟨by simp [h1],fun i B hi=>?_⟩
     cases i with
     | zero=>simp only [List.getElem?_cons_zero,aU] at hi;subst hi;exact ⟨l,C,rfl,hC,hB⟩
     | succ i=>simpa using h2 i B (by simpa using hi)
    .cases h
   .cases h
def oK:List Nat->List SB->List (Nat × SB)
 | l::ls,b::bs=>(l,b)::oK ls bs
 | _,_=>[]
theorem nC:∀ {ls:List Nat} {bs:List SB} {l:Nat} {B:SB},look l (oK ls bs)=some B->∃ i:Nat,ls[i]?=some l/\bs[i]?=some B
 | [],_,l,B,h=>by simp [oK,look] at h
 | _::_,[],l,B,h=>by simp [oK,look] at h
 | k::ls,b::bs,l,B,h=>by
   simp only [oK] at h
   by_cases e:k=l
   .subst e;rw [aI] at h;cases h;exact ⟨0,rfl,rfl⟩
   .rw [aD e] at h
    obtain ⟨i,h1,h2⟩:=nC h
    exact ⟨i+1,by simpa using h1,by simpa using h2⟩
theorem lJ:∀ {ls:List Nat} {bs:List SB} {l:Nat},bs.length=ls.length->look l (oK ls bs)=none->l ∉ ls
 | [],_,l,_,_=>by simp
 | _::_,[],l,hl,_=>by simp at hl
 | k::ls,b::bs,l,hl,h=>by
   simp only [oK] at h
   by_cases e:k=l
   .subst e;rw [aI] at h;cases h
   .rw [aD e] at h
    have:=lJ (by simpa using hl) h
    simp only [List.mem_cons,not_or]
    exact ⟨fun q=>e q.symm,this⟩
def TO (Γ:Env) (g:Nat->Option SV) (T:aZ):ResultVar->Option (List Prop × SV)
 | .tmp t=>(g t).map fun v=>([],v)
 | .cell a t=>match g a,Γ.ty t with
   | some (.ptr l true off),some ti=>match T l with
     | some B=>match EK Γ ti.desc,B,Nat.beq off 0 with
       | some _,.ints k xs _,true=>some ([xs.length=ti.size],.ai k xs)
       | _,_,_=>match Uc B true off ti.size with
         | some (ob,r)=>match sE ti.desc with
           | true=>some (ob,.agg r)
           | false=>match r with
             | [v]=>some (ob,v)
             | _=>none
         | none=>none
     | none=>none
   | _,_=>none
def Bc (Γ:Env) (g:Nat->Option SV) (T:aZ):List ResultVar->Option (List Prop × List SV)
 | []=>some ([],[])
 | r::rs=>match TO Γ g T r,Bc Γ g T rs with
   | some (a,v),some (b,vs)=>some (a++b,v::vs)
   | _,_=>none
noncomputable def St.QR (s:St) (ob:List Prop):St:={ s with ob:=ob++s.ob }
def res (vs:List SV):SV:=match vs with
 | [v]=>v
 | _=>.eL vs
noncomputable def finish (F lab:Nat) (s:St) (v:SV):Option bJ:=
 match tB some s.tb s.ws with
 | none=>none
 | some bs0=>
   let ls:=reach F s.tb 4096 (eO v++(bs0.map GL).flatten) []
   match wU (nm F lab ls) v,tB (nm F lab ls) s.tb ls,tB (nm F lab ls) s.tb s.ws,Nat.ble ls.length 8&&(Fy ls&&(ls.all (fun l=>Nat.ble F l)&&s.ws.all (fun l=>Nat.blt l F))) with
   | some v,some new,some wr,true=>some { bM:=s.ob,val:=v,new:=new,wr:=oK s.ws wr }
   | _,_,_,_=>none
noncomputable def kV (Γ:Env) (B:aZ) (F0 N:Nat):List SV->St->Option St
 | [],s=>some s
 | v::r,s=>match v with
   | .fn (.func id) args Ii=>match Γ.UZ id with
     | some S=>match S (args++Ii) (s.T B) s.nx (s.nx+8) with
       | some e=>match s.step F0 N none e s.nx (s.nx+8) with
         | some s'=>kV Γ B F0 N r s'
         | none=>none
       | none=>none
     | none=>none
   | _=>none
def rdS (dd:Bool) (o:Option St) (df:List SV) (s:St):Option St:=match dd with
 | true=>o
 | false=>match df with
   | []=>some s
   | _=>none
noncomputable def aJ (Γ:Env) (fn:Func) (dd:Bool) (hs:List Bool) (fuel:Nat):Sum:=fun vs T lab F=>
 match fn.body,Nat.ble vs.length fn.ntmps,Bv vs 0 .lf with
 | some c,true,some g=>match exec Γ (bH F T) F fn.ntmps fuel c { g:=g,tb:=.lf,nx:=F,ws:=[],ob:=[],hs:=hs } with
   | some (s,x)=>match x with
     | .exit _=>none
     | _=>match rdS dd (kV Γ (bH F T) F fn.ntmps s.df s) s.df s with
       | some s=>match Bc Γ s.g.get (s.T (bH F T)) fn.results.toList with
         | some (ob,rs)=>finish F lab (s.QR ob) (res rs)
         | none=>none
       | none=>none
   | none=>none
 | _,_,_=>none
def Px (tmps:Array Value):ResultVar->Sem Value
 | .tmp t=>pure (tmps.getD t undef)
 | .cell b t=>do loadVar t (<- asAddr (tmps.getD b undef))
theorem YH {P:Program} {Γ:Env} {w0 w:World} {M:Nat->Prop} {V:aY} {T:aZ} {g:Nat->Option SV} {a:Act} (aT:cA P Γ) (ht:cE V g a) (hT:aC w0 M V T w) {r:ResultVar} {v:SV} {ob:List Prop} (h:TO Γ g T r=some (ob,v)) (ho:∀ q∈ob,q) :
 ∃ x,den V v=some x/\(Px a.tmps r).run P w = .ok x w:=by
 cases r with
 | tmp t=>
   simp only [TO,Option.map_eq_some_iff,Prod.mk.injEq] at h
   obtain ⟨u,hu,_,rfl⟩:=h
   exact ⟨_,ht t u hu,rfl⟩
 | cell b t=>
   simp only [TO] at h
   split at h
   case h_2=>cases h
   rename_i l off ti hb dV
   have ex:=ht b _ hb
   simp only [den,Option.map_eq_some_iff] at ex
   obtain ⟨⟨bk,base⟩,hβ,ex⟩:=ex
   obtain ⟨hu,i,z,hi,gJ,_⟩:=aT t ti dV
   have ex':a.tmps.getD b undef = .pointer (some ⟨bk,base+off,none⟩):=ex.symm
   split at h
   case h_2=>cases h
   rename_i B hB
   have lS:=hT.ok l B hB
   split at h
   .rename_i k0 k xs ty ha h0
    cases h
    have h0:=cH h0
    subst h0
    have hlen:xs.length=ti.size:=ho _ (by simp)
    have gL:sE ti.desc=true:=by
     unfold EK at ha
     split at ha
     .rename_i hd;rw [hd];rfl
     .cases ha
    have hr:Uc (.ints k xs ty) false 0 ti.size=some ([0+ti.size<=xs.length],(List.range ti.size).map fun j=>.int false k (xs.getD (0+j) 0)):=rfl
    obtain ⟨zs,g1,g2,g3⟩:=pG lS hβ hr (by intro q hq;simp only [List.mem_singleton] at hq;subst hq;omega)
    rw [fZ (V:=V) ti.size (fun j=>.int false k (xs.getD (0+j) 0)) (fun j=>.int k (xs.getD (0+j) 0)) (fun j _=>rfl),pY xs 0 ti.size (by omega) k] at g1
    cases g1
    have:=(dK hu hi bk (base+0) _ (by rw [g2,gJ]) g3).1 gL
    refine ⟨.agg (((xs.drop 0).take ti.size).map (Value.int k)).toArray,by rw [List.drop_zero,<- hlen,List.take_length];rfl,?_⟩
    simp only [Px,ex',asAddr,Sem.run_bind,Sem.run_pure,Result.andThen_ok,this]
   .split at h
    case h_2=>cases h
    rename_i ob' r hr
    split at h
    .rename_i gL
     cases h
     obtain ⟨xs,h1,h2,h3⟩:=pG lS hβ hr ho
     have:=(dK hu hi bk (base+off) xs (by rw [h2,gJ]) h3).1 gL
     refine ⟨.agg xs.toArray,by simp [den,h1],?_⟩
     simp only [Px,ex',asAddr,Sem.run_bind,Sem.run_pure,Result.andThen_ok,this]
    .rename_i gL
     split at h
     case h_2=>cases h
     rename_i v'
     cases h
     obtain ⟨xs,h1,h2,h3⟩:=pG lS hβ hr ho
     obtain ⟨y,rfl,hy⟩:=rC h1
     have:=(dK hu hi bk (base+off) [y] (by rw [h2,gJ]) h3).2 gL y rfl
     refine ⟨y,hy,?_⟩
     simp only [Px,ex',asAddr,Sem.run_bind,Sem.run_pure,Result.andThen_ok,this]
theorem YG {P:Program} {Γ:Env} {w0 w:World} {M:Nat->Prop} {V:aY} {T:aZ} {g:Nat->Option SV} {a:Act} (aT:cA P Γ) (ht:cE V g a) (hT:aC w0 M V T w) {l:List ResultVar} {vs:List SV} {ob:List Prop} (h:Bc Γ g T l=some (ob,vs)) (ho:∀ q∈ob,q) :
 ∃ xs,aE V vs=some xs/\(l.mapM (Px a.tmps)).run P w = .ok xs w:=by
 induction l generalizing vs ob with
 | nil=>simp only [Bc,aU,Prod.mk.injEq] at h;obtain ⟨_,rfl⟩:=h;exact ⟨[],rfl,by simp⟩
 | cons r l ih=>
   simp only [Bc] at h
   split at h
   .rename_i oa v ob' us hv pA
    cases h
    obtain ⟨x,hx,hrx⟩:=YH aT ht hT hv (fun q hq=>ho q (List.mem_append_left _ hq))
    obtain ⟨xs,lV,Ya⟩:=ih pA (fun q hq=>ho q (List.mem_append_right _ hq))
    refine ⟨x::xs,by simp [aE,hx,lV],?_⟩
    rw [List.mapM_cons]
    simp only [Sem.run_bind]
    rw [hrx]
    simp only [Result.andThen_ok,Ya,Sem.run_pure]
   .cases h
theorem Dm {P:Program} {Γ:Env} {w0 w:World} {M:Nat->Prop} {V:aY} {T:aZ} {g:Nat->Option SV} {a:Act} (aT:cA P Γ) (ht:cE V g a) (hT:aC w0 M V T w) {fn:Func} {vs:List SV} {ob:List Prop} (h:Bc Γ g T fn.results.toList=some (ob,vs)) (ho:∀ q∈ob,q) :
 ∃ x,den V (res vs)=some x/\(results fn a.tmps).run P w = .ok x w:=by
 obtain ⟨xs,h1,h2⟩:=YG (P:=P) aT ht hT h ho
 have h3:(fn.results.mapM (Px a.tmps)).run P w = .ok xs.toArray w:=by
  rw [Array.mapM_eq_mapM_toList]
  simp only [Sem.run_map,h2]
  rfl
 have h4:results fn a.tmps=(do let vs <- fn.results.mapM (Px a.tmps);pure (if h:vs.size=1 then vs[0] else .tuple vs)):=by
  unfold results
  congr 1
 rw [h4]
 simp only [Sem.run_bind,h3,Result.andThen_ok,Sem.run_pure]
 unfold res
 split
 .rename_i v
  obtain ⟨x,rfl,hx⟩:=rC h1
  exact ⟨x,hx,by simp⟩
 .rename_i dD
  refine ⟨.tuple xs.toArray,by simp [den,h1],?_⟩
  have hl:=bB h1
  have:xs.toArray.size≠1:=by
   simp only [List.size_toArray,hl]
   intro q
   match vs,q with
   | [v],_=>exact dD v rfl
  rw [dif_neg this]
theorem Inv.QR {P:Program} {Γ:Env} {w0:World} {M:Nat->Prop} {B:aZ} {N F0:Nat} {V0:aY} {s:St} {V:aY} {a:Act} {w:World} (hi:Inv P Γ w0 M B N F0 V0 s V a w) (ob:List Prop):Inv P Γ w0 M B N F0 V0 (s.QR ob) V a w:=
 ⟨hi.tmp,hi.keys,hi.size,hi.defers,hi.eG,hi.aR,hi.top,hi.le,hi.low,hi.ch,hi.nx,hi.hi⟩
theorem He {P:Program} {Γ:Env} {w0 w w':World} {M:Nat->Prop} {V V1:aY} {T T2:aZ} {N F lab:Nat} {s:St} {a':Act} {v:SV} {e:bJ} {x:Value}
 (hT2:aC w0 M V T2 w) (aL:∀ l B,T l=some B->T2 l=some B) (hf:V.fresh lab)
 (hI:Inv P Γ w (jV V (bH F T)) (bH F T) N F V s V1 a' w') (hx:den V1 v=some x) (h:finish F lab s v=some e) :
 e.bM=s.ob/\∃ V2,V.ext lab V2/\den V2 e.val=some x/\aC w0 M V2 (eI T2 lab e) w':=by
 unfold finish at h
 split at h
 case h_1=>cases h
 rename_i bs0 _
 obtain ⟨ls,hls⟩:∃ ls,ls=reach F s.tb 4096 (eO v++(bs0.map GL).flatten) []:=⟨_,rfl⟩
 simp only [<- hls] at h
 split at h
 case h_2=>cases h
 rename_i v' new wr hv DW Xx gY
 cases h
 simp only [Bool.and_eq_true] at gY
 obtain ⟨DE,uC,hc3,hc4⟩:=gY
 have hlen:=Nat.le_of_ble_eq_true DE
 have UH:∀ (i k:Nat),ls[i]?=some k->F<=k:=fun i k hk=>Nat.le_of_ble_eq_true (List.all_eq_true.1 hc3 k (List.mem_of_getElem? hk))
 have DT:∀ (i k:Nat),s.ws[i]?=some k->k<F:=fun i k hk=>by have:=List.all_eq_true.1 hc4 k (List.mem_of_getElem? hk);simpa [Nat.blt_eq] using this
 obtain ⟨CY,hng⟩:=tR DW
 obtain ⟨hwl,hwg⟩:=tR Xx
 refine ⟨rfl,⟨fun l=>if lab<=l/\l<lab+ls.length then (ls[l-lab]?).bind V1.β else V.β l,fun l=>if lab<=l/\l<lab+ls.length then (ls[l-lab]?).bind V1.σ else V.σ l⟩,?_⟩
 generalize hV2:(⟨fun l=>if lab<=l/\l<lab+ls.length then (ls[l-lab]?).bind V1.β else V.β l,fun l=>if lab<=l/\l<lab+ls.length then (ls[l-lab]?).bind V1.σ else V.σ l⟩:aY)=V2
 have out:∀ l,¬ (lab<=l/\l<lab+ls.length)->V2.β l=V.β l/\V2.σ l=V.σ l:=fun l hl=>by
  subst hV2;exact ⟨if_neg hl,if_neg hl⟩
 have inn:∀ i k,ls[i]?=some k->V2.β (lab+i)=V1.β k/\V2.σ (lab+i)=V1.σ k:=fun i k hk=>by
  have hi:=(List.getElem?_eq_some_iff.1 hk).1
  have hr:lab<=lab+i/\lab+i<lab+ls.length:=⟨by omega,by omega⟩
  subst hV2
  refine ⟨(if_pos hr).trans ?_,(if_pos hr).trans ?_⟩ <;> (rw [show lab+i-lab=i from by omega,hk];rfl)
 have bN:V.ext lab V2:=by
  refine ⟨⟨fun l p hp=>?_,fun l p hp=>?_⟩,fun l hl=>out l (by omega)⟩
  .rw [(out l (fun hr=>by have:=(hf l hr.1 (by omega)).1;rw [this] at hp;cases hp)).1];exact hp
  .rw [(out l (fun hr=>by have:=(hf l hr.1 (by omega)).2;rw [this] at hp;cases hp)).2];exact hp
 have uG:uO (nm F lab ls) V1 V2:=by
  intro l l' hl
  unfold nm at hl
  split at hl
  .rename_i hb
   cases hl
   have hlF:l<F:=by simpa [Nat.blt_eq] using hb
   have oF:=hI.low l hlF
   rw [oF.1,oF.2]
   exact ⟨fun p hp=>bN.1.1 l p hp,fun p hp=>bN.1.2 l p hp⟩
  .split at hl
   .rename_i i hi
    cases hl
    obtain ⟨_,h2⟩:=vA hi
    have:=inn i l (by simpa using h2)
    rw [this.1,this.2]
    exact ⟨fun p hp=>hp,fun p hp=>hp⟩
   .cases hl
 refine ⟨bN,xF uG hv hx,?_⟩
 have aPa:∀ l B,bH F T l=some B->T2 l=some B:=fun l B hl=>aL l B (kX hl).2
 refine aC.called hT2 aPa hI.eG bN.1 (fun l=>if l∈s.ws then some l else if lab<=l/\l<lab+ls.length then ls[l-lab]? else (bH F T l).map fun _=>l) (fun l B hl=>?_) (fun l l' k hk gW=>?_)
 .unfold eI bJ.eG at hl
  simp only at hl
  rw [bY] at hl
  cases hw:look l (oK s.ws wr) with
  | some b=>
    rw [hw] at hl
    cases hl
    obtain ⟨i,h1,h2⟩:=nC hw
    obtain ⟨k,C,h3,h4,h5⟩:=hwg i _ h2
    rw [h1] at h3;cases h3
    have aGg:l∈s.ws:=List.mem_of_getElem? h1
    have yE:s.T (bH F T) l=some C:=by simp only [St.T,h4]
    have CX:nm F lab ls l=some l:=by
     unfold nm
     have:Nat.blt l F=true:=by simpa [Nat.blt_eq] using DT i l h1
     rw [this]
    obtain ⟨r1,r2,r3,r4⟩:=qY uG CX h5 (hI.eG.ok l C yE)
    refine .inl ⟨l,if_pos aGg,C,yE,r1,r2,r4,?_⟩
    rcases qX h5 with q | q
    .exact .inl q
    .exact .inr (.inl q)
  | none=>
    rw [hw] at hl
    have UE:=lJ hwl hw
    rw [fH] at hl
    by_cases hr:lab<=l/\l<lab+ls.length
    .have cI:l-lab<new.length:=by rw [CY];omega
     rw [if_pos hr.1,List.getElem?_eq_getElem cI] at hl
     cases hl
     obtain ⟨k,C,h3,h4,h5⟩:=hng (l-lab) _ (List.getElem?_eq_getElem cI)
     have yE:s.T (bH F T) k=some C:=by simp only [St.T,h4]
     have CX:nm F lab ls k=some l:=by
      unfold nm
      have hb:Nat.blt k F=false:=by
       cases hb:Nat.blt k F with
       | false=>rfl
       | true=>have:=UH _ _ h3;have:k<F:=by simpa [Nat.blt_eq] using hb
               omega
      rw [hb]
      simp only
      cases SE:Ep k ls 0 with
      | none=>
        exfalso
        have:∀ (ms:List Nat) (i:Nat),Ep k ms i=none->k ∉ ms:=by
         intro ms
         induction ms with
         | nil=>intro i _;simp
         | cons a r ih=>
           intro i hi
           simp only [Ep] at hi
           split at hi
           .cases hi
           .rename_i hb
            have:=beq_false hb
            simp only [List.mem_cons,not_or]
            exact ⟨fun q=>this q.symm,ih _ hi⟩
        exact this ls 0 SE (List.mem_of_getElem? h3)
      | some i=>
        simp only
        obtain ⟨_,h6⟩:=vA SE
        have:=vZ uC h3 (by simpa using h6)
        congr 1
        omega
     obtain ⟨r1,r2,r3,r4⟩:=qY uG CX h5 (hI.eG.ok k C yE)
     refine .inl ⟨k,(if_neg UE).trans ((if_pos hr).trans h3),C,yE,r1,r2,r4,?_⟩
     rcases qX h5 with q | q
     .exact .inl q
     .exact .inr (.inl q)
    .have Ea:(if lab<=l then new[l-lab]? else none)=none:=by
      split
      .apply List.getElem?_eq_none;rw [CY];omega
      .rfl
     rw [Ea] at hl
     simp only at hl
     cases hc:bH F T l with
     | none=>exact .inr ⟨(if_neg UE).trans ((if_neg hr).trans (rfl)),rfl,hl⟩
     | some B0=>
       have hB0:=aPa l B0 hc
       rw [hl] at hB0;cases hB0
       have hlF:=(kX hc).1
       have yE:s.T (bH F T) l=some B:=by simp only [St.T,hI.ch l hlF UE,hc]
       have aYv:=hI.eG.ok l B yE
       have aOx:=hT2.ok l B hl
       refine .inl ⟨l,(if_neg UE).trans ((if_neg hr).trans (rfl)),B,yE,?_,fun n hn=>?_,rfl,.inr (.inr hl)⟩
       .obtain ⟨cs,d1,d2⟩:=aYv
        obtain ⟨cs0,d3,_⟩:=aOx
        have:=SB.iV hI.le d3
        rw [d1] at this;cases this
        refine ⟨cs,SB.iV bN.1 d3,?_⟩
        have e1:=(hI.low l hlF).1
        have e2:=(hI.low l hlF).2
        cases B with
        | own cells ty=>obtain ⟨b,hb,hh⟩:=d2;exact ⟨b,bN.1.1 _ _ (e1 ▸ hb),hh⟩
        | ints k xs ty=>obtain ⟨b,hb,hh⟩:=d2;exact ⟨b,bN.1.1 _ _ (e1 ▸ hb),hh⟩
        | eJ vs ty=>obtain ⟨b,hb,hh⟩:=d2;exact ⟨b,bN.1.1 _ _ (e1 ▸ hb),hh⟩
        | fP cells=>obtain ⟨b,o,hb,hh⟩:=d2;exact ⟨b,o,bN.1.1 _ _ (e1 ▸ hb),hh⟩
        | nM k xs=>obtain ⟨b,o,hb,hh⟩:=d2;exact ⟨b,o,bN.1.1 _ _ (e1 ▸ hb),hh⟩
        | cT k xs ty=>obtain ⟨v,hv,hh⟩:=d2;exact ⟨v,bN.1.2 _ _ (e2 ▸ hv),hh⟩
        | fT sz n ty=>obtain ⟨v,us,hv,hh⟩:=d2;exact ⟨v,us,bN.1.2 _ _ (e2 ▸ hv),hh⟩
        | row sz cells ty=>obtain ⟨b,cap,cur,hb,hσ,r⟩:=d2;exact ⟨b,cap,cur,bN.1.1 _ _ (e1 ▸ hb),bN.1.2 _ _ (e2 ▸ hσ),r⟩
        | gQ k xs=>obtain ⟨v,hv,hh⟩:=d2;exact ⟨v,bN.1.2 _ _ (e2 ▸ hv),hh⟩
        | fI ds ty=>obtain ⟨v,us,hv,hh⟩:=d2;exact ⟨v,us,bN.1.2 _ _ (e2 ▸ hv),hh⟩
        | iS pre k ds ty=>obtain ⟨b,cap,cur,hb,hσ,r⟩:=d2;exact ⟨b,cap,cur,bN.1.1 _ _ (e1 ▸ hb),bN.1.2 _ _ (e2 ▸ hσ),r⟩
        | eM xs ty=>obtain ⟨v,hv,hh⟩:=d2;exact ⟨v,bN.1.2 _ _ (e2 ▸ hv),hh⟩
        | qI xs=>obtain ⟨v,hv,hh⟩:=d2;exact ⟨v,bN.1.2 _ _ (e2 ▸ hv),hh⟩
        | lU ds=>trivial
        | nH d=>trivial
        | gK ds z=>trivial
        | gone=>trivial
       .have h0:=aOx.tK bN.1
        rw [h0] at hn
        exact SB.aNl hI.le hn
 .have Fl:∀ (l k:Nat),(if l∈s.ws then some l else if lab<=l/\l<lab+ls.length then ls[l-lab]? else (bH F T l).map fun _=>l)=some k ->
   (k=l/\l<F)\/(lab<=l/\ls[l-lab]?=some k/\F<=k):=by
   intro l k hk
   split at hk
   .rename_i hm
    cases hk
    obtain ⟨i,hi,hie⟩:=List.getElem_of_mem hm
    exact .inl ⟨rfl,DT i l (by rw [List.getElem?_eq_getElem hi,hie])⟩
   .split at hk
    .rename_i hr
     exact .inr ⟨hr.1,hk,UH _ _ hk⟩
    .simp only [Option.map_eq_some_iff] at hk
     obtain ⟨B,hB,rfl⟩:=hk
     exact .inl ⟨rfl,(kX hB).1⟩
  rcases Fl l k hk with ⟨h1,h2⟩ | ⟨h1,h2,h3⟩ <;> rcases Fl l' k gW with ⟨Ei,CH⟩ | ⟨Ei,CH,h3'⟩
  .omega
  .omega
  .omega
  .have:=vZ uC h2 CH
   omega
theorem vX {Γ:Env} {B:aZ} {F0 N:Nat}:∀ {l:List SV} {s s':St},kV Γ B F0 N l s=some s'->∀ q∈s.ob,q∈s'.ob
 | [],s,s',h,q,hq=>by simp only [kV,aU] at h;subst h;exact hq
 | v::r,s,s',h,q,hq=>by
   unfold kV at h
   split at h
   .split at h
    .split at h
     .split at h
      .rename_i s1 h1
       have:=(St.cQ B h1).2.2.1
       exact vX h q (by rw [this];exact List.mem_append_right _ hq)
      .cases h
     .cases h
    .cases h
   .cases h
theorem Cu {P:Program} {Γ:Env} {w0:World} {M:Nat->Prop} {B:aZ} {N F0:Nat} {V0:aY} (aX:cK P Γ) {fn:Func} {R:Ending->World->Prop} {tmps:Array Value} :
 ∀ {l:List SV} {s s':St} {V:aY} {a:Act} {w:World} {xs:List Value},kV Γ B F0 N l s=some s'->(∀ q∈s'.ob,q)->Inv P Γ w0 M B N F0 V0 s V a w->a.tmps=tmps->aE V l=some xs ->
   (∀ V' a' w',Inv P Γ w0 M B N F0 V0 s' V' a' w'->a'.tmps=tmps->∃ v,(results fn tmps).run P w' = .ok v w'/\R (.returned v) w')->Leaves P fn tmps R (xs.map toD) .returning w
 | [],s,s',V,a,w,xs,h,ho,hi,ha,hx,hQ=>by
   simp only [kV,aU] at h
   subst h
   simp only [aE,aU] at hx
   subst hx
   exact hQ V a w hi ha
 | v::r,s,s',V,a,w,xs,h,ho,hi,ha,hx,hQ=>by
   unfold kV at h
   split at h
   case h_2=>cases h
   rename_i id args Ii
   split at h
   case h_2=>cases h
   rename_i S hS
   split at h
   case h_2=>cases h
   rename_i e he
   split at h
   case h_2=>cases h
   rename_i s1 h1
   simp only [aE,Option.map_eq_some_iff,Option.bind_eq_some_iff] at hx
   obtain ⟨x,hx,ys,hy,rfl⟩:=hx
   simp only [den,Option.bind_eq_some_iff,Option.map_eq_some_iff] at hx
   obtain ⟨aS,has,cs,lW,rfl⟩:=hx
   have sQ:∀ q∈e.bM,q:=fun q hq=>ho q (vX h q (by rw [(St.cQ B h1).2.2.1];exact List.mem_append_left _ hq))
   simp only [List.map_cons,toD]
   refine aX.2.1 id S hS _ _ _ _ _ he sQ w0 M V _ w _ (fun _ _ hl=>hl) hi.eG hi.aR hi.top.fresh (hi.top.mono (by omega)) (cF has lW) fn tmps _ R (fun V' w' hV hT=>?_) aS.toArray cs.toArray (by simp)
   have fS:=hi.step (a:=a) (x:=undef) h1 (Nat.le_refl _) (Nat.le_refl _) hV (fun hd=>by cases hd) hT
   exact Cu aX h ho fS ha (cZ hV.1 hy) hQ
theorem Zn {Γ:Env} {B:aZ} {F0 N:Nat} {s s':St} (h:kV Γ B F0 N [] s=some s'):s'=s:=by
 simp only [kV,aU] at h;exact h.symm
theorem IQ {o:Option St} {df:List SV} {s s2:St} (h:rdS false o df s=some s2):df=[]:=by
 unfold rdS at h
 split at h
 .rename_i h0;cases h0
 .split at h
  .rfl
  .cases h
theorem aJi {dd:Bool} {Γ:Env} {B:aZ} {F0 N:Nat} {s s2:St} (h:rdS dd (kV Γ B F0 N s.df s) s.df s=some s2):kV Γ B F0 N s.df s=some s2:=by
 cases dd with
 | true=>exact h
 | false=>have:=IQ h;unfold rdS at h;rw [this] at h |-;exact h
theorem yR {P:Program} {Γ:Env} (aT:cA P Γ) (aX:cK P Γ) (jF:P.follows .mixedOrders=true) {fn:Func} {dd:Bool} {hs:List Bool} {fuel:Nat} {vs:List SV} {T T2:aZ} {lab F:Nat} {e:bJ} {w0:World} {M:Nat->Prop} {V:aY} {w:World} {xs:List Value}
 (h:aJ Γ fn dd hs fuel vs T lab F=some e) (ho:∀ q∈e.bM,q) (aL:∀ l B,T l=some B->T2 l=some B) (hT:aC w0 M V T2 w) (hg:bL Γ V) (hf:V.fresh lab) (hF:V.top F) (hx:aE V vs=some xs)
 {R:Ending->World->Prop} (hR:∀ V' x w',V.ext lab V'->den V' e.val=some x->aC w0 M V' (eI T2 lab e) w'->R (.returned x) w') :
 ∃ c,fn.body=some c/\c.wp P (fun x a w=>bodyPostD P fn R x a w/\(dd=false->bodyPost P fn R x a w)) { tmps:=xs.toArray++Array.replicate (fn.ntmps-xs.toArray.size) undef,defers:=[] } w:=by
 unfold aJ at h
 split at h
 case h_2=>cases h
 rename_i c g hb hn zS
 split at h
 case h_2=>cases h
 rename_i s x hex
 have hn:=Nat.le_of_ble_eq_true hn
 have hlen:=bB hx
 have Me:=xU zS
 have lV:xs.length=vs.length:=hlen
 have SF:Inv P Γ w (jV V (bH F T)) (bH F T) fn.ntmps F V { g:=g,tb:=.lf,nx:=F,ws:=[],ob:=[],hs:=hs } V { tmps:=xs.toArray++Array.replicate (fn.ntmps-xs.toArray.size) undef,defers:=[] } w:=by
  refine ⟨fun t v hv=>?_,fun d v hv=>?_,?_,⟨[],rfl,rfl⟩,?_,hg,hF,V.le_refl,fun l _=>⟨rfl,rfl⟩,fun l _ _=>rfl,Nat.le_refl _,fun l hl=>?_⟩
  .have:=Me t
   simp only at hv
   rw [hv] at this
   split at this
   .rename_i hr
    obtain ⟨y,h1,h2⟩:=dX hx t v (by simpa using this.symm)
    rw [h2]
    have cI:t<xs.length:=by omega
    have sD:xs[t]?=some y:=h1
    simp [Act.eval,Array.getD_eq_getD_getElem?,Array.getElem?_append,cI] at sD |-
    exact sD.symm
   .cases this
  .have:=Me d
   simp only at hv
   rw [hv] at this
   split at this
   .omega
   .cases this
  .simp
   omega
  .have hp:=aC.part hT (T:=bH F T) (fun l B hl=>aL l B (kX hl).2)
   have:St.T (bH F T) { g:=g,tb:=.lf,nx:=F,ws:=[],ob:=[],hs:=hs }=bH F T:=by funext l;rfl
   rw [this]
   exact hp
  .show (match Tr.get .lf l with | some b=>some b | none=>bH F T l)=none
   simp only [Tr.lG]
   cases hc:bH F T l with
   | none=>rfl
   | some B=>have:=(kX hc).1;simp only at hl;omega
 have fin:∀ s2,rdS dd (kV Γ (bH F T) F fn.ntmps s.df s) s.df s=some s2->(match Bc Γ s2.g.get (s2.T (bH F T)) fn.results.toList with
   | some (ob,rs)=>finish F lab (s2.QR ob) (res rs)
   | none=>none)=some e ->
   (∀ q∈s2.ob,q)/\∀ V' a' w',Inv P Γ w (jV V (bH F T)) (bH F T) fn.ntmps F V s2 V' a' w'->∃ v,(results fn a'.tmps).run P w' = .ok v w'/\R (.returned v) w':=by
  intro s2 h2 h3
  split at h3
  case h_2=>cases h3
  rename_i obr rs Ya
  have DA:e.bM=obr++s2.ob:=by
   unfold finish at h3
   split at h3
   .cases h3
   .simp only at h3
    split at h3
    .cases h3;rfl
    .cases h3
  refine ⟨fun q hq=>ho q (DA ▸ List.mem_append_right _ hq),fun V' a' w' fS=>?_⟩
  obtain ⟨v,hv1,hv2⟩:=Dm (P:=P) (fn:=fn) aT fS.tmp fS.eG Ya (fun q hq=>ho q (DA ▸ List.mem_append_left _ hq))
  obtain ⟨_,V2,k1,k2,k3⟩:=He hT aL hf (fS.QR obr) hv1 h3
  exact ⟨v,hv2,hR V2 v w' k1 k2 k3⟩
 have main:∀ s2,x.to = .normal\/x.to = .ret->rdS dd (kV Γ (bH F T) F fn.ntmps s.df s) s.df s=some s2->(match Bc Γ s2.g.get (s2.T (bH F T)) fn.results.toList with
   | some (ob,rs)=>finish F lab (s2.QR ob) (res rs)
   | none=>none)=some e->∃ c,fn.body=some c/\c.wp P (fun x a w=>bodyPostD P fn R x a w/\(dd=false->bodyPost P fn R x a w)) { tmps:=xs.toArray++Array.replicate (fn.ntmps-xs.toArray.size) undef,defers:=[] } w:=by
  intro s2 hxn h2 h3
  obtain ⟨sQ,UL⟩:=fin s2 h2 h3
  have dR:=aJi h2
  refine ⟨c,hb,(aBt aT aX jF fuel).1 hex (fun q hq=>sQ q (vX dR q hq)) SF fun V' a' w' fS=>?_⟩
  obtain ⟨ys,iC,Fo⟩:=fS.defers
  have hl:Leaves P fn a'.tmps R a'.defers .returning w':=by
   rw [Fo]
   exact Cu aX dR sQ fS rfl iC fun V3 a3 w3 hi3 ha3=>by
    obtain ⟨v,q1,q2⟩:=UL V3 a3 w3 hi3
    exact ⟨v,ha3 ▸ q1,q2⟩
  have hp:dd=false->a'.defers=[]/\∃ v,(results fn a'.tmps).run P w' = .ok v w'/\R (.returned v) w':=by
   intro hD
   have hdf:s.df=[]:=IQ (hD ▸ h2)
   rw [hdf] at iC dR
   simp only [aE,aU] at iC
   subst iC
   have:=Zn dR
   subst this
   exact ⟨Fo,UL V' a' w' fS⟩
  rcases hxn with q | q <;> (rw [q];exact ⟨hl,hp⟩)
 cases x with
 | exit id=>simp only at h;cases h
 | normal=>
   simp only at h
   split at h
   .rename_i s2 h2;exact main s2 (.inl rfl) h2 h
   .cases h
 | ret=>
   simp only at h
   split at h
   .rename_i s2 h2;exact main s2 (.inr rfl) h2 h
   .cases h
theorem gV {P:Program} {f:FuncId} {fn:Func} {c:Code} {args:Array Value} {w:World} (uB:P.funcs[f]?=some fn) (hb:fn.body=some c) (dD:(fn.name == "runtime.NumGoroutine")=false):(callFunc f args).run P w = .ok (.enter f args) w:=by
 unfold callFunc
 have zF:¬ fn.name = "runtime.NumGoroutine" := by simpa using dD
 simp [uB,hb,zF]
theorem aM {P:Program} {Γ:Env} (aT:cA P Γ) (aX:cK P Γ) (jF:P.follows .mixedOrders=true) {f:FuncId} {fn:Func} (uB:P.funcs[f]?=some fn) (dD:(fn.name == "runtime.NumGoroutine")=false) (dd:Bool) (hs:List Bool) (fuel:Nat):aH P Γ f (aJ Γ fn dd hs fuel):=by
 intro vs T lab F e h ho w0 M V T2 w xs aL hT hg hf hF hx o a K Q hK
 obtain ⟨c,hb,hwp⟩:=yR aT aX jF h ho aL hT hg hf hF hx (R:=fun
   | .returned v,RR=>K (a.put o.dst v) RR
   | .panicked chain,RR=>Q (.panic chain) a RR
   | .outgrown,_=>LetsOut Q) (fun V' x w' h1 h2 h3=>hK V' x w' h1 h2 h3)
 rw [gV uB hb dD,Oper.upon_enter]
 exact calls_of_wp_defers uB hb (wp_mono hwp fun x a w h=>h.1)
theorem Sv {P:Program} {Γ:Env} (aT:cA P Γ) (aX:cK P Γ) (jF:P.follows .mixedOrders=true) {f:FuncId} {fn:Func} (uB:P.funcs[f]?=some fn) (dD:(fn.name == "runtime.NumGoroutine")=false) (hs:List Bool) (fuel:Nat):Cp P Γ f (aJ Γ fn false hs fuel):=by
 intro vs T lab F e h ho w0 M V T2 w xs aL hT hg hf hF hx fn0 tmps ds R hK aS cs hac
 obtain ⟨c,hb,hwp⟩:=yR aT aX jF h ho aL hT hg hf hF hx (R:=fun e' RR=>match e' with
   | .returned _=>Leaves P fn0 tmps R ds .returning RR
   | _=>False) (fun V' x w' h1 _ h3=>hK V' w' h1 h3)
 have lV:xs.toArray=aS++cs:=by apply Array.ext';simp [<- hac]
 refine leaves_cons (by simp) (f:=f) (args:=aS++cs) ?_ ?_
 .show (callFunc f (aS++cs)).run P w=_
  rw [gV uB hb dD]
 .rw [<- lV]
  refine (callsD_of_wp (u:=.returning) uB hb (wp_mono hwp fun x a w h=>h.2 rfl)).mono fun e' u' w' h=>?_
  obtain ⟨rfl,h⟩:=h
  cases e' with
  | returned v=>exact h
  | panicked chain=>exact h.elim
  | outgrown=>exact h.elim
theorem aH.env {P:Program} {Γ Γ':Env} (h:Γ'.aR=Γ.aR) {f:FuncId} {S:Sum} (hs:aH P Γ f S):aH P Γ' f S:=
 fun vs T lab F e he ho w0 M V T2 w xs aL hT hg=>hs vs T lab F e he ho w0 M V T2 w xs aL hT (fun n l hn=>hg n l (h ▸ hn))
theorem Cp.env {P:Program} {Γ Γ':Env} (h:Γ'.aR=Γ.aR) {f:FuncId} {S:Sum} (hs:Cp P Γ f S):Cp P Γ' f S:=
 fun vs T lab F e he ho w0 M V T2 w xs aL hT hg=>hs vs T lab F e he ho w0 M V T2 w xs aL hT (fun n l hn=>hg n l (h ▸ hn))
noncomputable def Lg (P:Program) (aR:List (Nat × Nat)) (cmp:List Nat) (ex:Nat->Option Sum) (tw:List (Nat × Nat)) (fuel:Nat) (n:Nat):Env:=
 Nat.rec { ty:=tiP P,aR:=aR,sum:=ex,UZ:=fun _=>none,cmp:=cmp }
  (fun _ Γ=>{ ty:=tiP P,aR:=aR,cmp:=cmp
              sum:=fun f=>match ex f with
               | some S=>some S
               | none=>match P.funcs[(look f tw).getD f]? with
                 | some fn=>some (aJ Γ fn true [] fuel)
                 | none=>none
              UZ:=fun f=>match P.funcs[f]? with
               | some fn=>some (aJ Γ fn false [] fuel)
               | none=>none }) n
theorem pL {P:Program} {aR:List (Nat × Nat)} {cmp:List Nat} {ex:Nat->Option Sum} {tw:List (Nat × Nat)} {fuel n:Nat}:(Lg P aR cmp ex tw fuel n).ty=tiP P/\(Lg P aR cmp ex tw fuel n).aR=aR/\(Lg P aR cmp ex tw fuel n).cmp=cmp:=by
 cases n <;> exact ⟨rfl,rfl,rfl⟩
structure KI (P:Program) (aR:List (Nat × Nat)) (cmp:List Nat) (ex:Nat->Option Sum) (tw:List (Nat × Nat)):Prop where
 mix:P.follows .mixedOrders=true
 names:∀ (f:Nat) (fn:Func),P.funcs[f]?=some fn->(fn.name == "runtime.NumGoroutine")=false
 cmp:∀ t:Nat,cmp.elem t=true->(∀ i,P.info? t=some i->i.comparable=true)/\P.stoodInHeld t=false
 depth:∃ d,P.depth=d+2
 tw:∀ f g:Nat,look f tw=some g->∀ (args:Array Value) (w:World),(callFunc f args).run P w=(callFunc g args).run P w
 ex:∀ f S,ex f=some S->∀ Γ:Env,Γ.aR=aR->aH P Γ f S
theorem aCk {P:Program} {aR:List (Nat × Nat)} {cmp:List Nat} {ex:Nat->Option Sum} {tw:List (Nat × Nat)} (h:KI P aR cmp ex tw) (fuel:Nat):∀ n,cK P (Lg P aR cmp ex tw fuel n):=by
 intro n
 induction n with
 | zero=>exact ⟨fun f S hS=>h.ex f S hS _ rfl,fun f S hS=>(by cases hS),h.cmp,h.depth⟩
 | succ n ih=>
   refine ⟨fun f S hS=>?_,fun f S hS=>?_,h.cmp,h.depth⟩
   .have hS:(match ex f with
     | some S=>some S
     | none=>match P.funcs[(look f tw).getD f]? with
       | some fn=>some (aJ (Lg P aR cmp ex tw fuel n) fn true [] fuel)
       | none=>none)=some S:=hS
    split at hS
    .rename_i S' hx;cases hS;exact h.ex f S hx _ rfl
    .split at hS
     .rename_i fn uB
      cases hS
      have hs:=(aM (cA.prog pL.1) ih h.mix uB (h.names _ fn uB) true [] fuel).env (Γ':=Lg P aR cmp ex tw fuel (n+1)) (by rw [pL.2.1,pL.2.1])
      cases htw:look f tw with
      | none=>rw [htw] at hs;exact hs
      | some g=>
        rw [htw] at hs
        intro vs T lab F e he ho w0 M V T2 w xs aL hT hg hf hF hx o a K Q hK
        rw [h.tw f g htw]
        exact hs vs T lab F e he ho w0 M V T2 w xs aL hT hg hf hF hx o a K Q hK
     .cases hS
   .have hS:(match P.funcs[f]? with
      | some fn=>some (aJ (Lg P aR cmp ex tw fuel n) fn false [] fuel)
      | none=>none)=some S:=hS
    split at hS
    .rename_i fn uB
     cases hS
     exact (Sv (cA.prog pL.1) ih h.mix uB (h.names f fn uB) [] fuel).env (by rw [pL.2.1,pL.2.1])
    .cases hS
theorem cA.env {P:Program} {Γ Γ':Env} (h:Γ'.ty=Γ.ty) (hs:cA P Γ):cA P Γ':=fun t ti ht=>hs t ti (h ▸ ht)
def Lm (a b:Int):Bool:=match a,b with
 | .ofNat m,.ofNat n=>Nat.beq m n
 | .negSucc m,.negSucc n=>Nat.beq m n
 | _,_=>false
theorem Xo {a b:Int} (h:Lm a b=true):a=b:=by
 unfold Lm at h
 split at h
 .rw [cH h]
 .rw [cH h]
 .cases h
def oI (a b:IntKind):Bool:=decide (a=b)
def Qi (a b:Bool):Bool:=match a,b with
 | true,true=>true
 | false,false=>true
 | _,_=>false
theorem rT {a b:Bool} (h:Qi a b=true):a=b:=by cases a <;> cases b <;> first | rfl | cases h
mutual
def qE:SV->SV->Bool
 | .int s k n,.int s' k' n'=>Qi s s'&&(oI k k'&&Lm n n')
 | .bool s b,.bool s' b'=>Qi s s'&&Qi b b'
 | .agg vs,.agg us=>Ll vs us
 | .eL vs,.eL us=>Ll vs us
 | .ptr l s o,.ptr l' s' o'=>Nat.beq l l'&&(Qi s s'&&Nat.beq o o')
 | .aG l s o n c,.aG l' s' o' n' c'=>Nat.beq l l'&&(Qi s s'&&(Nat.beq o o'&&(Nat.beq n n'&&Nat.beq c c')))
 | _,_=>false
def Ll:List SV->List SV->Bool
 | [],[]=>true
 | v::r,u::t=>match qE v u with
   | true=>Ll r t
   | false=>false
 | _,_=>false
end
mutual
theorem aDg:∀ {v u:SV},qE v u=true->v=u
 | .int s k n,u,h=>by
   cases u <;> simp only [qE,Bool.and_eq_true] at h <;> first | (cases h;done) | skip
   obtain ⟨h1,h2,h3⟩:=h
   rw [rT h1,of_decide_eq_true h2,Xo h3]
 | .bool s b,u,h=>by
   cases u <;> simp only [qE,Bool.and_eq_true] at h <;> first | (cases h;done) | skip
   rw [rT h.1,rT h.2]
 | .agg vs,u,h=>by
   cases u <;> simp only [qE] at h <;> first | (cases h;done) | skip
   rw [Ag h]
 | .eL vs,u,h=>by
   cases u <;> simp only [qE] at h <;> first | (cases h;done) | skip
   rw [Ag h]
 | .ptr l s o,u,h=>by
   cases u <;> simp only [qE,Bool.and_eq_true] at h <;> first | (cases h;done) | skip
   obtain ⟨h1,h2,h3⟩:=h
   rw [cH h1,rT h2,cH h3]
 | .aG l s o n c,u,h=>by
   cases u <;> simp only [qE,Bool.and_eq_true] at h <;> first | (cases h;done) | skip
   obtain ⟨h1,h2,h3,h4,h5⟩:=h
   rw [cH h1,rT h2,cH h3,cH h4,cH h5]
 | .fn ..,u,h=>by simp [qE] at h
 | .sH ..,u,h=>by simp [qE] at h
 | .raw ..,u,h=>by simp [qE] at h
 | .buf ..,u,h=>by simp [qE] at h
 | .jH ..,u,h=>by simp [qE] at h
 | .Ub ..,u,h=>by simp [qE] at h
 | .mS ..,u,h=>by simp [qE] at h
 | .eV ..,u,h=>by simp [qE] at h
 | .ai ..,u,h=>by simp [qE] at h
 | .cP ..,u,h=>by simp [qE] at h
theorem Ag:∀ {vs us:List SV},Ll vs us=true->vs=us
 | [],us,h=>by cases us <;> simp [Ll] at h |-
 | v::r,us,h=>by
   cases us with
   | nil=>simp [Ll] at h
   | cons u t=>
     simp only [Ll] at h
     split at h
     .rename_i h1;rw [aDg h1,Ag h]
     .cases h
end
mutual
def fD:SV->Bool
 | .int .. | .bool .. | .raw _ | .ai .. => true
 | .agg vs=>Lv vs
 | .eL vs=>Lv vs
 | _=>false
def Lv:List SV->Bool
 | []=>true
 | v::r=>match fD v with
   | true=>Lv r
   | false=>false
end
mutual
theorem mX {V V':aY}:∀ {v:SV},fD v=true->den V v=den V' v
 | .int ..,_=>rfl
 | .bool ..,_=>rfl
 | .raw _,_=>rfl
 | .agg vs,h=>by simp only [den,Cw (V:=V) (V':=V') (vs:=vs) h]
 | .eL vs,h=>by simp only [den,Cw (V:=V) (V':=V') (vs:=vs) h]
 | .fn ..,h=>by cases h
 | .sH ..,h=>by cases h
 | .ptr ..,h=>by cases h
 | .aG ..,h=>by cases h
 | .buf ..,h=>by cases h
 | .jH ..,h=>by cases h
 | .Ub ..,h=>by cases h
 | .mS ..,h=>by cases h
 | .eV ..,h=>by cases h
 | .ai ..,_=>rfl
 | .cP ..,h=>by cases h
theorem Cw {V V':aY}:∀ {vs:List SV},Lv vs=true->aE V vs=aE V' vs
 | [],_=>rfl
 | v::r,h=>by
   simp only [Lv] at h
   split at h
   .rename_i h1;simp only [aE,mX (V:=V) (V':=V') h1,Cw (V:=V) (V':=V') h]
   .cases h
end
def orS (A B:Sum):Sum:=fun vs T lab F=>match A vs T lab F with
 | some e=>some e
 | none=>B vs T lab F
theorem IX {P:Program} {Γ:Env} {f:FuncId} {A B:Sum} (ha:aH P Γ f A) (hb:aH P Γ f B):aH P Γ f (orS A B):=by
 intro vs T lab F e he
 unfold orS at he
 split at he
 .rename_i e' h;cases he;exact ha vs T lab F _ h
 .exact hb vs T lab F e he
theorem rN {P:Program} {f g:FuncId} {fn fg:Func} {c:Code} {twin:String} (hf:P.funcs[f]?=some fn) (hg:P.funcs[g]?=some fg) (hb:fn.body=none) (hc:fg.body=some c)
 (hn:(fn.name == "runtime.NumGoroutine")=false) (hn2:(fg.name == "runtime.NumGoroutine")=false) (he:Extern.findNext fn=some (Extern.Twins.call twin fn.params fn.resultTypes))
 (hi:P.funcs.findIdx? (·.name==twin)=some g) (hp:fg.params=fn.params) (hr:fg.resultTypes=fn.resultTypes) (args:Array Value) (w:World) :
 (callFunc f args).run P w=(callFunc g args).run P w:=by
 rw [gV hg hc hn2]
 have Oy:¬ fn.name = "runtime.NumGoroutine" := by simpa using hn
 unfold callFunc
 simp [hf,hb,Oy,he,Extern.Twins.call,hi,hg,hp,hr,hc]
def xM (sub:Bool):Sum:=fun vs _ _ _=>match vs with
 | [.int sx .u64 x,.int sy .u64 y,.int sc .u64 c]=>match sB (sx&&(sy&&sc)) (0<=x/\0<=y/\0<=c/\c<=1) with
   | some l=>match sub with
     | false=>some { bM:=l,val:=.eL [.int (sx&&(sy&&sc)) .u64 ((x+y+c)%18446744073709551616),.int (sx&&(sy&&sc)) .u64 ((x+y+c)/18446744073709551616)] }
     | true=>some { bM:=l,val:=.eL [.int (sx&&(sy&&sc)) .u64 ((((x.toNat+18446744073709551616-y.toNat-c.toNat)%18446744073709551616:Nat):Int)),.int (sx&&(sy&&sc)) .u64 ((if x<y+c then 1 else 0))] }
   | none=>none
 | _=>none
def Qp:Array Value->Sem Value:=fun args=>do
 let (x,y,b) <- Extern.MathBitsCarry.three "Sub64" args
 pure (Extern.MathBitsCarry.pair ((x+Extern.MathBitsCarry.m64-y-b)%Extern.MathBitsCarry.m64) (if x<y+b then 1 else 0))
theorem Sj {P:Program} (x y b:Nat) (hb:b<=1) (w:World) :
 (Qp #[.int .u64 x,.int .u64 y,.int .u64 b]).run P w =
  .ok (.tuple #[.int .u64 (((x+18446744073709551616-y-b)%18446744073709551616:Nat):Int),.int .u64 ((if x<y+b then 1 else 0:Nat):Int)]) w:=by
 have:b=0\/b=1:=by omega
 rcases this with rfl | rfl <;> rfl
theorem Hl {P:Program} {Γ:Env} {f:FuncId} (sub:Bool)
 (dR:∀ (args:Array Value) (w:World),(callFunc f args).run P w=(do pure (.value (<- (match sub with | false=>add64Entry args | true=>Qp args))):Sem Next).run P w):aH P Γ f (xM sub):=by
 intro vs T lab F e he ho w0 M V T2 w xs aL hT hg hf hF hx o a K Q hK
 unfold xM at he
 split at he
 case h_2=>cases he
 rename_i sx x sy y sc c
 split at he
 case h_2=>cases he
 rename_i l hl
 simp only [aE,den,Option.bind_some,Option.map_some,aU] at hx
 subst hx
 have sQ:∀ q∈l,q:=by cases sub <;> (simp only [aU] at he;subst he;exact ho)
 obtain ⟨h1,h2,h3,h4⟩:=hH hl sQ
 rw [dR]
 obtain ⟨x',rfl⟩:=Int.eq_ofNat_of_zero_le h1
 obtain ⟨y',rfl⟩:=Int.eq_ofNat_of_zero_le h2
 obtain ⟨c',rfl⟩:=Int.eq_ofNat_of_zero_le h3
 cases sub with
 | false=>
   simp only [aU] at he
   subst he
   have:=run_add64 (P:=P) x' y' c' h1 h2 h3 h4 w
   simp only [Sem.run_bind,this,Result.andThen_ok,Sem.run_pure,Oper.upon_value]
   exact hK V _ w (V.cN lab) (by simp [den,aE]) (by rw [jW _ _ rfl rfl];exact hT)
 | true=>
   simp only [aU] at he
   subst he
   have:=Sj (P:=P) x' y' c' (by omega) w
   simp only [Sem.run_bind,this,Result.andThen_ok,Sem.run_pure,Oper.upon_value]
   refine hK V _ w (V.cN lab) ?_ (by rw [jW _ _ rfl rfl];exact hT)
   have e1:(if (x':Int)<(y':Int)+(c':Int) then (1:Int) else 0)=((if x'<y'+c' then 1 else 0:Nat):Int):=by
    split <;> split <;> first | rfl | omega
   simp only [den,aE,Option.bind_some,Option.map_some,Int.toNat_natCast,e1]
end Go.Proofs.YticicdfijghigaaGreatDoor.Sx
section
namespace Go.Proofs.YticicdfijghigaaGreatDoor.Sx
end Go.Proofs.YticicdfijghigaaGreatDoor.Sx
end
section
namespace Go.Proofs.YticicdfijghigaaGreatDoor.Sx
end Go.Proofs.YticicdfijghigaaGreatDoor.Sx
end
namespace Go.Proofs.YticicdfijghigaaGreatDoor.Sx
def aF (P:Program) (Γ:Env) (f:FuncId) (vs:List SV) (T:aZ) (lab F:Nat) (e:bJ):Prop:=
 ∀ (w0:World) (M:Nat->Prop) (V:aY) (T2:aZ) (w:World) (xs:List Value),
   (∀ l B,T l=some B->T2 l=some B)->aC w0 M V T2 w->bL Γ V->V.fresh lab->V.top F->aE V vs=some xs ->
   ∀ (o:Oper) (a:Act) K Q,(∀ V' x w',V.ext lab V'->den V' e.val=some x->aC w0 M V' (eI T2 lab e) w'->K (a.put o.dst x) w') ->
     o.upon P a K Q ((callFunc f xs.toArray).run P w)
theorem aH.call {P:Program} {Γ:Env} {f:FuncId} {S:Sum} (h:aH P Γ f S) {vs:List SV} {T:aZ} {lab F:Nat} {e:bJ} (he:S vs T lab F=some e) (ho:∀ q∈e.bM,q):aF P Γ f vs T lab F e:=h vs T lab F e he ho
theorem aH.LH {P:Program} {Γ:Env} {f:FuncId} {S:Sum} (h:∀ vs T lab F e,S vs T lab F=some e->(∀ q∈e.bM,q)->aF P Γ f vs T lab F e):aH P Γ f S:=h
inductive Src where
 | lab (l off:Nat)
 | val (v:SV)
 | Kr (v:SV) (cs:List SV)
abbrev Vw:=Nat->Option Src
def seen (vw:Vw) (V:aY):aY:=
 ⟨fun l0=>match vw l0 with
  | some (.lab l off)=>(V.β l).map fun p=>(p.1,p.2+off)
  | _=>none,
  fun l0=>match vw l0 with
   | some (.lab l _)=>V.σ l
   | some (.val v)=>den V v
   | some (.Kr v cs)=>(den V v).bind fun x=>(aE V cs).map fun us=>.tuple (x::us).toArray
   | none=>none⟩
theorem jS {vw:Vw} {V:aY} {l0 l off:Nat} (h:vw l0=some (.lab l off)):(seen vw V).β l0=(V.β l).map (fun p=>(p.1,p.2+off))/\(seen vw V).σ l0=V.σ l:=by
 simp [seen,h]
theorem vW {vw:Vw} {V:aY} {l0:Nat} {v:SV} (h:vw l0=some (.val v)):(seen vw V).σ l0=den V v:=by
 simp [seen,h]
def uD (vw:Vw) (F0 lab l0:Nat):Option Nat:=match Nat.blt l0 F0 with
 | true=>match vw l0 with
   | some (.lab l 0)=>some l
   | _=>none
 | false=>match Nat.blt l0 (F0+8) with
   | true=>some (lab+(l0-F0))
   | false=>none
def Lu (ρ : Nat->Option Nat):List SB->Option (List SB)
 | []=>some []
 | B::r=>match uE ρ B,Lu ρ r with
   | some B,some r=>some (B::r)
   | _,_=>none
def Lt (ρ : Nat->Option Nat):List (Nat × SB)->Option (List (Nat × SB))
 | []=>some []
 | (l,B)::r=>match ρ l,uE ρ B,Lt ρ r with
   | some l,some B,some r=>some ((l,B)::r)
   | _,_,_=>none
def Vi (ρ : Nat->Option Nat) (e:bJ):Option bJ:=match wU ρ e.val,Lu ρ e.new,Lt ρ e.wr with
 | some v,some n,some w=>some { bM:=e.bM,val:=v,new:=n,wr:=w }
 | _,_,_=>none
theorem Gs {ρ : Nat->Option Nat}:∀ {bs cs:List SB},Lu ρ bs=some cs->cs.length=bs.length/\∀ (i:Nat) (B:SB),cs[i]?=some B->∃ C,bs[i]?=some C/\uE ρ C=some B
 | [],cs,h=>by simp only [Lu,aU] at h;subst h;simp
 | b::r,cs,h=>by
   simp only [Lu] at h
   split at h
   .rename_i B' r' hB hr
    cases h
    obtain ⟨h1,h2⟩:=Gs hr
    refine ⟨by simp [h1],fun i B hi=>?_⟩
    cases i with
    | zero=>simp only [List.getElem?_cons_zero,aU] at hi;subst hi;exact ⟨b,rfl,hB⟩
    | succ i=>simpa using h2 i B (by simpa using hi)
   .cases h
def yZ (ρ : Nat->Option Nat) (l:Nat):List (Nat × SB)->Option Nat
 | []=>none
 | (k,_)::r=>if ρ k=some l then some k else yZ ρ l r
theorem zW {ρ : Nat->Option Nat} {l:Nat}:∀ {r:List (Nat × SB)} {k:Nat},yZ ρ l r=some k -> ρ k=some l
 | [],k,h=>by cases h
 | (j,B)::r,k,h=>by
   simp only [yZ] at h
   split at h
   .rename_i hj;cases h;exact hj
   .exact zW h
theorem Gr {ρ : Nat->Option Nat} {l:Nat}:∀ {r s:List (Nat × SB)},Lt ρ r=some s ->
 (∀ B,look l s=some B->∃ k C,yZ ρ l r=some k/\look k r=some C/\uE ρ C=some B)/\(look l s=none->yZ ρ l r=none)
 | [],s,h=>by simp only [Lt,aU] at h;subst h;exact ⟨fun B hB=>(by simp [look] at hB),fun _=>rfl⟩
 | (k,C)::r,s,h=>by
   simp only [Lt] at h
   split at h
   .rename_i l' B' r' h1 h2 h3
    cases h
    obtain ⟨i1,i2⟩:=Gr (l:=l) h3
    by_cases e:l'=l
    .subst e
     refine ⟨fun B hB=>?_,fun hn=>?_⟩
     .rw [aI] at hB
      cases hB
      exact ⟨k,C,by simp [yZ,h1],aI _ _ _,h2⟩
     .rw [aI] at hn;cases hn
    .have hk : ρ k≠some l:=by rw [h1];exact fun q=>e (by cases q;rfl)
     refine ⟨fun B hB=>?_,fun hn=>?_⟩
     .rw [aD e] at hB
      obtain ⟨k2,C2,j1,j2,j3⟩:=i1 B hB
      have dD:k≠k2:=fun q=>hk (q ▸ zW j1)
      exact ⟨k2,C2,by simp [yZ,hk,j1],by rw [aD dD];exact j2,j3⟩
     .rw [aD e] at hn
      simp [yZ,hk,i2 hn]
   .cases h
structure KK (vw:Vw) (vs:List SV) (T:aZ) (eR:List SV) (T0:List (Nat × SB)) (V:aY) (w:World):Prop where
 val:∀ xs,aE V vs=some xs->aE (seen vw V) eR=some xs
 ok:∀ l0 B0,look l0 T0=some B0->okB (seen vw V) w l0 B0
 jN:∀ l0 B0 l1 B1 n,l0≠l1->look l0 T0=some B0->look l1 T0=some B1->B0.owned=true->B0.aN (seen vw V) l0=some n->B1.aN (seen vw V) l1≠some n
 own:∀ l0 B0 n,look l0 T0=some B0->B0.owned=true->B0.aN (seen vw V) l0=some n->∃ l B,vw l0=some (.lab l 0)/\T l=some B/\B.owned=true/\B.aN V l=some n
 sL:∀ M':Nat->Prop,(∀ n,M' n->∃ l0 B0 l B,look l0 T0=some B0/\B0.owned=true/\vw l0=some (.lab l 0)/\T l=some B/\B.owned=true/\B.aN V l=some n)->∀ l0 B0,look l0 T0=some B0->kR w M' (seen vw V) l0 B0
def aNu (P:Program) (f:FuncId) (xs:List Value) (T2:aZ) (lab:Nat) (e:bJ) (w0:World) (M:Nat->Prop) (V:aY) (w:World):Prop:=
 ∀ (o:Oper) (a:Act) K Q,(∀ V' x w',V.ext lab V'->den V' e.val=some x->aC w0 M V' (eI T2 lab e) w'->K (a.put o.dst x) w')->o.upon P a K Q ((callFunc f xs.toArray).run P w)
theorem QI {P:Program} {Γ:Env} {f:FuncId} {vs eR:List SV} {T:aZ} {T0:List (Nat × SB)} {F0 lab:Nat} {e0 e:bJ} {vw:Vw} (hC:aF P Γ f eR (fun l=>look l T0) F0 F0 e0)
 (Xy:∀ l0,F0<=l0->vw l0=none) (Yb:∀ n l,look n Γ.aR=some l->vw l=some (.lab l 0))
 (fJ:∀ l0 B0,look l0 T0=some B0->B0.owned=true->l0<F0/\look l0 e0.wr≠none)
 (hlen:e0.new.length<=8) (Xx:∀ l0 B0,look l0 e0.wr=some B0->l0<F0)
 (he:Vi (uD vw F0 lab) e0=some e) {w0:World} {M:Nat->Prop} {V:aY} {T2:aZ} {w:World} {xs:List Value}
 (aL:∀ l B,T l=some B->T2 l=some B) (hT:aC w0 M V T2 w) (hg:bL Γ V) (hf:V.fresh lab) (hx:aE V vs=some xs) (fit:KK vw vs T eR T0 V w):aNu P f xs T2 lab e w0 M V w:=by
 intro o a K Q hK
 unfold Vi at he
 split at he
 case h_2=>cases he
 rename_i v' new wr hv DW aYj
 cases he
 obtain ⟨CY,hng⟩:=Gs DW
 obtain ⟨Th,hTh⟩:∃ Th:aZ,Th=fun l=>open Classical in if ∃ l0 B0,look l0 T0=some B0/\B0.owned=true/\vw l0=some (.lab l 0) then T l else none:=⟨_,rfl⟩
 have aZm:∀ l B,Th l=some B->T2 l=some B:=fun l B hl=>by
  rw [hTh] at hl
  simp only at hl
  split at hl
  .exact aL l B hl
  .cases hl
 have aEq:∀ l0,F0<=l0->(seen vw V).β l0=none/\(seen vw V).σ l0=none:=fun l0 h=>by simp [seen,Xy l0 h]
 have Ic:aC w (jV V Th) (seen vw V) (fun l=>look l T0) w:=by
  refine ⟨fun l B hl=>fit.ok l B hl,fun l B l' B' n dD hl rK ho hb=>fit.jN l B l' B' n dD hl rK ho hb,fun l B n hl ho hb=>.inr ?_,fK.refl w _,fit.sL _ fun n ⟨l1,B1,h1,h2,h3⟩=>?_⟩
  .obtain ⟨l1,B1,h1,h2,h3,h4⟩:=fit.own l B n hl ho hb
   refine ⟨l1,B1,?_,h3,h4⟩
   rw [hTh]
   simp only
   rw [if_pos ⟨l,B,hl,ho,h1⟩]
   exact h2
  .rw [hTh] at h1
   simp only at h1
   split at h1
   .rename_i hex
    obtain ⟨l0,B0,a1,a2,a3⟩:=hex
    exact ⟨l0,B0,l1,B1,a1,a2,a3,h1,h2,h3⟩
   .cases h1
 refine hC w (jV V Th) (seen vw V) (fun l=>look l T0) w xs (fun _ _ h=>h) Ic (fun n l hl=>?_) (fun l h1 h2=>aEq l h1) (fun l h1=>aEq l h1) (fit.val xs hx) o a K Q (fun V' x w' Pa hx' oE=>?_)
 .rw [(jS (Yb n l hl)).1,hg n l hl];rfl
 obtain ⟨V2,hV2⟩:∃ V2:aY,V2=⟨fun l=>if lab<=l/\l<lab+8 then V'.β (F0+(l-lab)) else V.β l,fun l=>if lab<=l/\l<lab+8 then V'.σ (F0+(l-lab)) else V.σ l⟩:=⟨_,rfl⟩
 have out:∀ l,¬ (lab<=l/\l<lab+8)->V2.β l=V.β l/\V2.σ l=V.σ l:=fun l hl=>by
  subst hV2;exact ⟨if_neg hl,if_neg hl⟩
 have inn:∀ i,i<8->V2.β (lab+i)=V'.β (F0+i)/\V2.σ (lab+i)=V'.σ (F0+i):=fun i hi=>by
  have hr:lab<=lab+i/\lab+i<lab+8:=⟨by omega,by omega⟩
  subst hV2
  refine ⟨(if_pos hr).trans ?_,(if_pos hr).trans ?_⟩ <;> rw [show lab+i-lab=i from by omega]
 have bN:V.ext lab V2:=by
  refine ⟨⟨fun l p hp=>?_,fun l p hp=>?_⟩,fun l hl=>out l (by omega)⟩
  .rw [(out l (fun hr=>by have:=(hf l hr.1 (by omega)).1;rw [this] at hp;cases hp)).1];exact hp
  .rw [(out l (fun hr=>by have:=(hf l hr.1 (by omega)).2;rw [this] at hp;cases hp)).2];exact hp
 have uG:uO (uD vw F0 lab) V' V2:=by
  intro l l' hl
  unfold uD at hl
  split at hl
  .rename_i hb
   have hlF:l<F0:=by simpa [Nat.blt_eq] using hb
   split at hl
   .rename_i l1 hq
    cases hl
    have h0:=Pa.2 l (.inl hlF)
    have h1:=jS (V:=V) hq
    rw [h0.1,h0.2,h1.1,h1.2]
    refine ⟨fun p hp=>?_,fun v hv=>bN.1.2 _ v hv⟩
    simp only [Option.map_eq_some_iff] at hp
    obtain ⟨q,zP,rfl⟩:=hp
    exact bN.1.1 _ _ zP
   .cases hl
  .split at hl
   .rename_i qH lA
    cases hl
    have h1:F0<=l:=by
     apply Nat.le_of_not_lt
     intro q
     have q2:Nat.blt l F0=true:=by simpa [Nat.blt_eq] using q
     simp_all
    have h2:l<F0+8:=by simpa [Nat.blt_eq] using lA
    have:=inn (l-F0) (by omega)
    rw [show F0+(l-F0)=l from by omega] at this
    rw [this.1,this.2]
    exact ⟨fun p hp=>hp,fun p hp=>hp⟩
   .cases hl
 refine hK V2 x w' bN (xF uG hv hx') ?_
 refine aC.called hT aZm oE bN.1 (fun l=>match yZ (uD vw F0 lab) l e0.wr with
  | some k=>some k
  | none=>if lab<=l/\l<lab+e0.new.length then some (F0+(l-lab)) else none) (fun l B hl=>?_) (fun l l' k hk gW=>?_)
 .unfold eI bJ.eG at hl
  simp only at hl
  rw [bY] at hl
  obtain ⟨g1,g2⟩:=Gr (l:=l) aYj
  cases hw:look l wr with
  | some b=>
    rw [hw] at hl
    cases hl
    obtain ⟨k,C,h1,h2,h3⟩:=g1 _ hw
    have yE:eI (fun l=>look l T0) F0 e0 k=some C:=by
     unfold eI bJ.eG
     rw [bY,h2]
    obtain ⟨r1,r2,r3,r4⟩:=qY uG (zW h1) h3 (oE.ok k C yE)
    refine .inl ⟨k,by simp only [h1],C,yE,r1,r2,r4,?_⟩
    rcases qX h3 with q | q
    .exact .inl q
    .exact .inr (.inl q)
  | none=>
    rw [hw] at hl
    have Fq:=g2 hw
    rw [fH] at hl
    by_cases hr:lab<=l/\l<lab+e0.new.length
    .have cI:l-lab<new.length:=by rw [CY];omega
     rw [if_pos hr.1,List.getElem?_eq_getElem cI] at hl
     cases hl
     obtain ⟨C,h3,h4⟩:=hng (l-lab) _ (List.getElem?_eq_getElem cI)
     have yE:eI (fun l=>look l T0) F0 e0 (F0+(l-lab))=some C:=by
      unfold eI bJ.eG
      rw [bY]
      cases hq:look (F0+(l-lab)) e0.wr with
      | some b=>have:=Xx _ b hq;omega
      | none=>
        simp only
        rw [fH,if_pos (by omega),show F0+(l-lab)-F0=l-lab from by omega,h3]
     have aGf:uD vw F0 lab (F0+(l-lab))=some l:=by
      unfold uD
      have b1:Nat.blt (F0+(l-lab)) F0=false:=by
       cases hb:Nat.blt (F0+(l-lab)) F0 with
       | false=>rfl
       | true=>have:F0+(l-lab)<F0:=by simpa [Nat.blt_eq] using hb
               omega
      have b2:Nat.blt (F0+(l-lab)) (F0+8)=true:=by simp [Nat.blt_eq];omega
      rw [b1,b2]
      simp only
      congr 1
      omega
     obtain ⟨r1,r2,r3,r4⟩:=qY uG aGf h4 (oE.ok _ C yE)
     refine .inl ⟨F0+(l-lab),by simp only [Fq,if_pos hr],C,yE,r1,r2,r4,?_⟩
     rcases qX h4 with q | q
     .exact .inl q
     .exact .inr (.inl q)
    .have Ea:(if lab<=l then new[l-lab]? else none)=none:=by
      split
      .apply List.getElem?_eq_none;rw [CY];omega
      .rfl
     rw [Ea] at hl
     simp only at hl
     refine .inr ⟨by simp only [Fq,if_neg hr],?_,hl⟩
     rw [hTh]
     simp only
     split
     .rename_i hex
      obtain ⟨l0,B0,h1,h2,h3⟩:=hex
      obtain ⟨cI,hnn⟩:=fJ l0 B0 h1 h2
      have aGf:uD vw F0 lab l0=some l:=by
       unfold uD
       have b1:Nat.blt l0 F0=true:=by simpa [Nat.blt_eq] using cI
       simp only [b1,h3]
      exfalso
      have:∀ {r:List (Nat × SB)},look l0 r≠none->yZ (uD vw F0 lab) l r≠none:=by
       intro r
       induction r with
       | nil=>intro h;exact (h rfl).elim
       | cons p r ih=>
         obtain ⟨k,C⟩:=p
         intro h
         simp only [yZ]
         split
         .simp
         .rename_i dD
          refine ih ?_
          by_cases e:k=l0
          .subst e;exact (dD aGf).elim
          .rwa [aD e] at h
      exact this hnn Fq
     .rfl
 .have Fl:∀ (l k:Nat),(match yZ (uD vw F0 lab) l e0.wr with
    | some k=>some k
    | none=>if lab<=l/\l<lab+e0.new.length then some (F0+(l-lab)) else none)=some k->uD vw F0 lab k=some l:=by
   intro l k hk
   split at hk
   .rename_i k' gW
    cases hk
    exact zW gW
   .split at hk
    .rename_i hr
     cases hk
     unfold uD
     have b1:Nat.blt (F0+(l-lab)) F0=false:=by
      cases hb:Nat.blt (F0+(l-lab)) F0 with
      | false=>rfl
      | true=>have:F0+(l-lab)<F0:=by simpa [Nat.blt_eq] using hb
              omega
     have b2:Nat.blt (F0+(l-lab)) (F0+8)=true:=by simp [Nat.blt_eq];omega
     rw [b1,b2]
     simp only
     congr 1
     omega
    .cases hk
  have e1:=Fl l k hk
  have e2:=Fl l' k gW
  rw [e1] at e2
  cases e2
  rfl
theorem QH {P:Program} {Γ:Env} {f:FuncId} {vs eR:List SV} {T:aZ} {T0:List (Nat × SB)} {F0 lab F:Nat} {e0 e:bJ} {vw:Vw} (hC:aF P Γ f eR (fun l=>look l T0) F0 F0 e0)
 (Xy:∀ l0,F0<=l0->vw l0=none) (Yb:∀ n l,look n Γ.aR=some l->vw l=some (.lab l 0))
 (aZf:∀ w0 M V w xs,aC w0 M V T w->aE V vs=some xs->KK vw vs T eR T0 V w)
 (fJ:∀ l0 B0,look l0 T0=some B0->B0.owned=true->l0<F0/\look l0 e0.wr≠none)
 (hlen:e0.new.length<=8) (Xx:∀ l0 B0,look l0 e0.wr=some B0->l0<F0)
 (he:Vi (uD vw F0 lab) e0=some e):aF P Γ f vs T lab F e:=by
 intro w0 M V T2 w xs aL hT hg hf _ hx
 exact QI hC Xy Yb fJ hlen Xx he aL hT hg hf hx (aZf _ _ V w xs (aC.part hT aL) hx)
inductive Fr where
 | seq (y:Code)
 | aN (id:Nat)
 | loop (n:Nat) (c:Code)
 | scope
inductive Cf where
 | go (c:Code)
 | at (x:Ex)
def KQ (P:Program):List Fr->(Exit->Act->World->Prop)->Exit->Act->World->Prop
 | [],Q=>Q
 | .seq y::K,Q=>Exit.then (y.wp P (KQ P K Q)) (KQ P K Q)
 | .aN id::K,Q=>Exit.inBlock id (KQ P K Q)
 | .loop n c::K,Q=>Exit.then (Code.rounds P c (KQ P K Q) n) (KQ P K Q)
 | .scope::K,Q=>Exit.noGoto (KQ P K Q)
def EB:Code->Nat
 | .region n _ _=>n
 | .seq x _=>EB x
 | .block _ c=>EB c
 | .loop c=>EB c
 | .scope c=>EB c
 | _=>0
structure pU where
 cf:Cf
 fr:List Fr
 st:St
noncomputable def Ga (Γ:Env) (B:aZ) (F0 N:Nat) (stops:List Nat) (lf:Nat) (rec:Cf->List Fr->St->Option pU) (cf:Cf) (K:List Fr) (s:St):Option pU:=
 match cf with
 | .at x=>match K with
   | []=>some ⟨.at x,[],s⟩
   | .seq y::K=>match x with
     | .normal=>rec (.go y) K s
     | x=>rec (.at x) K s
   | .aN id::K=>match x with
     | .exit Kt=>match Nat.beq Kt id with
       | true=>rec (.at .normal) K s
       | false=>rec (.at (.exit Kt)) K s
     | x=>rec (.at x) K s
   | .loop n c::K=>match x with
     | .normal=>match n with
       | m+1=>rec (.go c) (.loop m c::K) s
       | 0=>none
     | x=>rec (.at x) K s
   | .scope::K=>rec (.at x) K s
 | .go c=>match c with
   | .skip=>rec (.at .normal) K s
   | .label _=>rec (.at .normal) K s
   | .region _ ops d=>match d with
     | true=>match Gh Γ B F0 N ops s with
       | some s'=>rec (.at .normal) K s'
       | none=>none
     | false=>match Hx Γ B F0 N ops ops.toList s with
       | some s'=>rec (.at .normal) K s'
       | none=>none
   | .seq x y=>rec (.go x) (.seq y::K) s
   | .cond c x y=>match ev Γ s.g.get c with
     | some (.bool true true)=>rec (.go x) K s
     | some (.bool true false)=>rec (.go y) K s
     | some (.bool false b)=>match s.hs with
       | true::r=>rec (.go x) K { s with ob:=(b=true)::s.ob,hs:=r }
       | false::r=>rec (.go y) K { s with ob:=(b=false)::s.ob,hs:=r }
       | []=>none
     | _=>none
   | .block id c=>rec (.go c) (.aN id::K) s
   | .loop c=>match stops.elem (EB c) with
     | true=>some ⟨.go (.loop c),K,s⟩
     | false=>rec (.go c) (.loop lf c::K) s
   | .exit id=>rec (.at (.exit id)) K s
   | .ret=>rec (.at .ret) K s
   | .scope c=>rec (.go c) (.scope::K) s
   | _=>none
noncomputable def gZ (Γ:Env) (B:aZ) (F0 N:Nat) (stops:List Nat) (lf n:Nat):Cf->List Fr->St->Option pU:=
 Nat.rec (fun cf K s=>some ⟨cf,K,s⟩) (fun _ ih=>Ga Γ B F0 N stops lf ih) n
def G (P:Program) (Γ:Env) (w0:World) (M:Nat->Prop) (B:aZ) (N F0:Nat) (V0:aY) (cf:Cf) (K:List Fr) (s:St) (Q:Exit->Act->World->Prop):Prop:=
 ∀ V a w,Inv P Γ w0 M B N F0 V0 s V a w->match cf with
   | .go c=>c.wp P (KQ P K Q) a w
   | .at x=>KQ P K Q x.to a w
section
variable {P:Program} {Γ:Env} {w0:World} {M:Nat->Prop} {B:aZ} {N F0:Nat} {V0:aY}
theorem Inv.hints {s:St} {V:aY} {a:Act} {w:World} (hi:Inv P Γ w0 M B N F0 V0 s V a w) (ob:List Prop) (hs:List Bool):Inv P Γ w0 M B N F0 V0 { s with ob:=ob,hs:=hs } V a w:=
 ⟨hi.tmp,hi.keys,hi.size,hi.defers,hi.eG,hi.aR,hi.top,hi.le,hi.low,hi.ch,hi.nx,hi.hi⟩
theorem Aa {stops:List Nat} {lf:Nat}:∀ {n:Nat} {cf:Cf} {K:List Fr} {s:St} {r:pU},gZ Γ B F0 N stops lf n cf K s=some r->∀ q∈s.ob,q∈r.st.ob:=by
 intro n
 induction n with
 | zero=>intro cf K s r h q hq;cases h;exact hq
 | succ n ih=>
   intro cf K s r h q hq
   have h:Ga Γ B F0 N stops lf (gZ Γ B F0 N stops lf n) cf K s=some r:=h
   unfold Ga at h
   split at h
   .split at h
    .cases h;exact hq
    .split at h <;> exact ih h q hq
    .split at h
     .split at h <;> exact ih h q hq
     .exact ih h q hq
    .split at h
     .split at h
      .exact ih h q hq
      .cases h
     .exact ih h q hq
    .exact ih h q hq
   .split at h
    .exact ih h q hq
    .exact ih h q hq
    .split at h
     .split at h
      .rename_i s1 h1;exact ih h q (Nt h1 q hq)
      .cases h
     .split at h
      .rename_i s1 h1;exact ih h q (uX h1 q hq)
      .cases h
    .exact ih h q hq
    .split at h
     .exact ih h q hq
     .exact ih h q hq
     .split at h
      .exact ih h q (List.mem_cons_of_mem _ hq)
      .exact ih h q (List.mem_cons_of_mem _ hq)
      .cases h
     .cases h
    .exact ih h q hq
    .split at h
     .cases h;exact hq
     .exact ih h q hq
    .exact ih h q hq
    .exact ih h q hq
    .exact ih h q hq
    .cases h
theorem G.run (aT:cA P Γ) (aX:cK P Γ) (jF:P.follows .mixedOrders=true) {stops:List Nat} {lf:Nat} {Q:Exit->Act->World->Prop}:∀ {n:Nat} {cf:Cf} {K:List Fr} {s:St} {r:pU},
 gZ Γ B F0 N stops lf n cf K s=some r->(∀ q∈r.st.ob,q)->G P Γ w0 M B N F0 V0 r.cf r.fr r.st Q->G P Γ w0 M B N F0 V0 cf K s Q:=by
 intro n
 induction n with
 | zero=>intro cf K s r h ho hr;cases h;exact hr
 | succ n ih=>
   intro cf K s r h ho hr V a w hi
   have h:Ga Γ B F0 N stops lf (gZ Γ B F0 N stops lf n) cf K s=some r:=h
   cases cf with
   | «at» x=>
     cases K with
     | nil=>cases h;exact hr V a w hi
     | cons fr K'=>
       cases fr with
       | seq y=>cases x <;> exact ih h ho hr V a w hi
       | aN id=>
         cases x with
         | normal=>exact ih h ho hr V a w hi
         | ret=>exact ih h ho hr V a w hi
         | exit Kt=>
           simp only [Ga] at h
           split at h
           .rename_i hb
            have:=ih h ho hr V a w hi
            show (if Kt=id then KQ P K' Q .normal a w else KQ P K' Q (.exit Kt) a w)
            rw [if_pos (cH hb)]
            exact this
           .rename_i hb
            have:=ih h ho hr V a w hi
            show (if Kt=id then KQ P K' Q .normal a w else KQ P K' Q (.exit Kt) a w)
            rw [if_neg (beq_false hb)]
            exact this
       | loop m c=>
         cases x with
         | normal=>
           cases m with
           | zero=>cases h
           | succ m'=>exact ih h ho hr V a w hi
         | ret=>exact ih h ho hr V a w hi
         | exit Kt=>exact ih h ho hr V a w hi
       | scope=>
         have:=ih h ho hr V a w hi
         cases x <;> exact this
   | go c=>
     simp only [Ga] at h
     split at h
     .exact wp_skip (ih h ho hr V a w hi)
     .exact wp_label (ih h ho hr V a w hi)
     .split at h
      .split at h
       .rename_i s1 h1
        exact Ns aT aX jF h1 (fun q hq=>ho q (Aa h q hq)) hi fun V' a' w' fS=>ih h ho hr V' a' w' fS
       .cases h
      .split at h
       .rename_i s1 h1
        exact wp_region_list (uW aT aX h1 (fun q hq=>ho q (Aa h q hq)) hi fun V' a' w' fS=>ih h ho hr V' a' w' fS)
       .cases h
     .exact wp_seq (ih h ho hr V a w hi)
     .split at h
      .rename_i hc
       have hc:=bF hi.tmp hi.aR hc
       simp only [den,aU] at hc
       exact wp_cond_true hc.symm (ih h ho hr V a w hi)
      .rename_i hc
       have hc:=bF hi.tmp hi.aR hc
       simp only [den,aU] at hc
       exact wp_cond_false hc.symm (ih h ho hr V a w hi)
      .rename_i b hc
       have hc:=bF hi.tmp hi.aR hc
       simp only [den,aU] at hc
       split at h
       .have hb:b=true:=ho _ (Aa h _ cM)
        rw [hb] at hc
        exact wp_cond_true hc.symm (ih h ho hr V a w (hi.hints _ _))
       .have hb:b=false:=ho _ (Aa h _ cM)
        rw [hb] at hc
        exact wp_cond_false hc.symm (ih h ho hr V a w (hi.hints _ _))
       .cases h
      .cases h
     .exact wp_block (ih h ho hr V a w hi)
     .split at h
      .cases h;exact hr V a w hi
      .exact wp_loop_rounds (lf+1) (ih h ho hr V a w hi)
     .exact wp_exit (ih h ho hr V a w hi)
     .exact wp_ret (ih h ho hr V a w hi)
     .exact wp_scope_straight (ih h ho hr V a w hi)
     .cases h
theorem G.loop {L:Code} {K:List Fr} {Q:Exit->Act->World->Prop} (S:Nat->St->Prop) {r0:Nat} {s0:St} (h0:S r0 s0)
 (aLa:∀ r s,S r s->G P Γ w0 M B N F0 V0 (.go L) [] s (Exit.then (fun a w=>∃ r',r'<r/\∃ s',S r' s'/\∃ V,Inv P Γ w0 M B N F0 V0 s' V a w) (KQ P K Q))) :
 G P Γ w0 M B N F0 V0 (.go (.loop L)) K s0 Q:=by
 intro V a w hi
 refine wp_loop_ghost (fun r a w=>∃ s,S r s/\∃ V,Inv P Γ w0 M B N F0 V0 s V a w) r0 ⟨s0,h0,V,hi⟩ ?_
 rintro r a w ⟨s,hs,V,hi⟩
 exact aLa r s hs V a w hi
theorem G.again {K:List Fr} {Q:Exit->Act->World->Prop} {S:Nat->St->Prop} {r:Nat} {s:St}
 (h:∀ V a w,Inv P Γ w0 M B N F0 V0 s V a w->∃ r',r'<r/\∃ s',S r' s'/\∃ V,Inv P Γ w0 M B N F0 V0 s' V a w) :
 G P Γ w0 M B N F0 V0 (.at .normal) [] s (Exit.then (fun a w=>∃ r',r'<r/\∃ s',S r' s'/\∃ V,Inv P Γ w0 M B N F0 V0 s' V a w) (KQ P K Q)):=
 fun V a w hi=>h V a w hi
theorem G.leave {K:List Fr} {Q:Exit->Act->World->Prop} {J:Act->World->Prop} {x:Ex} {s:St} (hx:x ≠ .normal) (h:G P Γ w0 M B N F0 V0 (.at x) K s Q) :
 G P Γ w0 M B N F0 V0 (.at x) [] s (Exit.then J (KQ P K Q)):=by
 intro V a w hi
 have:=h V a w hi
 cases x with
 | normal=>exact (hx rfl).elim
 | exit id=>exact this
 | ret=>exact this
end
def lK (ρ : Nat->Option Nat):SB->Option SB
 | .gQ k xs=>some (.gQ k xs)
 | .lU ds=>some (.lU ds)
 | .nH d=>some (.nH d)
 | .gK ds z=>some (.gK ds z)
 | .qI xs=>some (.qI xs)
 | .fI ds ty=>some (.fI ds ty)
 | B=>uE ρ B
theorem Gu {ρ : Nat->Option Nat} {V V':aY} (h:uO ρ V V') {w:World} {l l':Nat} {B B':SB} (hl : ρ l=some l') (hr:lK ρ B=some B') (lS:okB V w l B) :
 okB V' w l' B'/\(∀ n,B'.aN V' l'=some n->B.aN V l=some n)/\(∀ n,B.aN V l=some n->B'.aN V' l'=some n)/\B'.owned=B.owned:=by
 cases B with
 | gQ k xs=>
   simp only [lK,aU] at hr
   subst hr
   obtain ⟨cs,hc,v,hσ,hh⟩:=lS
   have fU:=(h l l' hl).2 _ hσ
   exact ⟨⟨cs,hc,v,fU,hh⟩,fun n hn=>by simpa [SB.aN,hσ,fU] using hn,fun n hn=>by simpa [SB.aN,hσ,fU] using hn,rfl⟩
 | fI ds ty=>
   simp only [lK,aU] at hr
   subst hr
   obtain ⟨cs,hc,v,us,hσ,hh⟩:=lS
   have fU:=(h l l' hl).2 _ hσ
   exact ⟨⟨cs,hc,v,us,fU,hh⟩,fun n hn=>by simpa [SB.aN,hσ,fU] using hn,fun n hn=>by simpa [SB.aN,hσ,fU] using hn,rfl⟩
 | nH d=>
   simp only [lK,aU] at hr
   subst hr
   exact ⟨⟨[],rfl,trivial⟩,fun n hn=>by simp [SB.aN] at hn,fun n hn=>by simp [SB.aN] at hn,rfl⟩
 | qI xs=>
   simp only [lK,aU] at hr
   subst hr
   obtain ⟨cs,hc,v,hσ,hh⟩:=lS
   have fU:=(h l l' hl).2 _ hσ
   exact ⟨⟨cs,hc,v,fU,hh⟩,fun n hn=>by simpa [SB.aN,hσ,fU] using hn,fun n hn=>by simpa [SB.aN,hσ,fU] using hn,rfl⟩
 | gK ds z=>
   simp only [lK,aU] at hr
   subst hr
   exact ⟨⟨[],rfl,trivial⟩,fun n hn=>by simp [SB.aN] at hn,fun n hn=>by simp [SB.aN] at hn,rfl⟩
 | lU ds=>
   simp only [lK,aU] at hr
   subst hr
   exact ⟨⟨[],rfl,trivial⟩,fun n hn=>by simp [SB.aN] at hn,fun n hn=>by simp [SB.aN] at hn,rfl⟩
 | _=>exact qY h hl hr lS
theorem fC {ρ : Nat->Option Nat} {B B':SB} (h:uE ρ B=some B'):B'.plain=true:=by
 rcases qX h with q | rfl
 .exact q.2
 .rfl
theorem Gt {ρ : Nat->Option Nat} {V V':aY} (h:uO ρ V V') {w0:World} {M:Nat->Prop} {l l':Nat} {B B':SB} (hl : ρ l=some l') (hr:lK ρ B=some B') (hf:kR w0 M V l B):kR w0 M V' l' B':=by
 cases B with
 | nH d=>
   simp only [lK,aU] at hr
   subst hr
   obtain ⟨u,hσ,r⟩:=hf
   exact ⟨u,(h l l' hl).2 _ hσ,r⟩
 | gK ds z=>
   simp only [lK,aU] at hr
   subst hr
   obtain ⟨v,us,hσ,r⟩:=hf
   exact ⟨v,us,(h l l' hl).2 _ hσ,r⟩
 | lU ds=>
   simp only [lK,aU] at hr
   subst hr
   obtain ⟨v,us,hσ,r⟩:=hf
   exact ⟨v,us,(h l l' hl).2 _ hσ,r⟩
 | fI ds ty=>
   simp only [lK,aU] at hr
   subst hr
   obtain ⟨v,us,hσ,r⟩:=hf
   exact ⟨v,us,(h l l' hl).2 _ hσ,r⟩
 | gQ k xs=>
   simp only [lK,aU] at hr
   subst hr
   trivial
 | qI xs=>
   simp only [lK,aU] at hr
   subst hr
   trivial
 | eM a b=>exact cV (fC (ρ := ρ) (B:=.eM a b) hr)
 | own a b=>exact cV (fC (ρ := ρ) (B:=.own a b) hr)
 | ints a b c=>exact cV (fC (ρ := ρ) (B:=.ints a b c) hr)
 | fP a=>exact cV (fC (ρ := ρ) (B:=.fP a) hr)
 | nM a b=>exact cV (fC (ρ := ρ) (B:=.nM a b) hr)
 | cT a b c=>exact cV (fC (ρ := ρ) (B:=.cT a b c) hr)
 | row a b c=>exact cV (fC (ρ := ρ) (B:=.row a b c) hr)
 | eJ a b=>exact cV (fC (ρ := ρ) (B:=.eJ a b) hr)
 | fT a b c=>exact cV (fC (ρ := ρ) (B:=.fT a b c) hr)
 | iS a b c d=>exact cV (fC (ρ := ρ) (B:=.iS a b c d) hr)
 | gone=>exact cV (fC (ρ := ρ) (B:=.gone) hr)
noncomputable def rP (ρ : Nat->Option Nat) (tb:Tr SB):List Nat->Option (List SB)
 | []=>some []
 | l::r=>match tb.get l with
   | some B=>match lK ρ B,rP ρ tb r with
     | some B,some bs=>some (B::bs)
     | _,_=>none
   | none=>none
theorem rF {ρ : Nat->Option Nat} {tb:Tr SB}:∀ {ls:List Nat} {bs:List SB},rP ρ tb ls=some bs->bs.length=ls.length/\∀ (i:Nat) (B:SB),bs[i]?=some B->∃ (l:Nat) (C:SB),ls[i]?=some l/\tb.get l=some C/\lK ρ C=some B
 | [],bs,h=>by simp only [rP,aU] at h;subst h;simp
 | l::r,bs,h=>by
   simp only [rP] at h
   split at h
   .rename_i C hC
    split at h
    .rename_i B' bs' hB RI
     cases h
     obtain ⟨h1,h2⟩:=rF RI
     refine ⟨by simp [h1],fun i B hi=>?_⟩
     cases i with
     | zero=>simp only [List.getElem?_cons_zero,aU] at hi;subst hi;exact ⟨l,C,rfl,hC,hB⟩
     | succ i=>simpa using h2 i B (by simpa using hi)
    .cases h
   .cases h
noncomputable def Ma (ρ : Nat->Option Nat) (g:Tr SV):List Nat->Option (Tr SV)
 | []=>some .lf
 | t::r=>match Ma ρ g r,g.get t with
   | some g',some v=>match wU ρ v with
     | some v=>Tr.put v 64 g' t
     | none=>none
   | _,_=>none
noncomputable def DO:List (Nat × SB)->Option (Tr SB)
 | []=>some .lf
 | (l,B)::r=>match DO r with
   | some t=>Tr.put B 64 t l
   | none=>none
noncomputable def Uv (F0:Nat) (gG eO:List Nat) (hs:List Bool) (s:St):Option St:=
 match Ma (nm F0 F0 eO) s.g gG,rP (nm F0 F0 eO) s.tb s.ws,rP (nm F0 F0 eO) s.tb eO with
 | some g,some wr,some nw=>match DO (oK s.ws wr++fO F0 nw),zB (nm F0 F0 eO) s.df with
   | some tb,some df=>match Fy eO&&(eO.all (fun l=>Nat.ble F0 l)&&s.ws.all (fun l=>Nat.blt l F0)) with
     | true=>some { g:=g,tb:=tb,nx:=F0+eO.length,ws:=s.ws,ob:=[],df:=df,hs:=hs }
     | false=>none
   | _,_=>none
 | _,_,_=>none
theorem xS {ρ : Nat->Option Nat} {g:Tr SV}:∀ {ks:List Nat} {g':Tr SV},Ma ρ g ks=some g'->∀ t v,g'.get t=some v->∃ u,g.get t=some u/\wU ρ u=some v
 | [],g',h,t,v,hv=>by simp only [Ma,aU] at h;subst h;rw [Tr.lG] at hv;cases hv
 | k::r,g',h,t,v,hv=>by
   simp only [Ma] at h
   split at h
   case h_2=>cases h
   rename_i g1 u h1 hu
   split at h
   case h_2=>cases h
   rename_i v1 hr
   rw [Tr.hY _ _ _ _ _ h t] at hv
   split at hv
   .rename_i e;subst e;cases hv;exact ⟨u,hu,hr⟩
   .exact xS h1 t v hv
theorem Na:∀ {r:List (Nat × SB)} {t:Tr SB},DO r=some t->∀ l,t.get l=look l r
 | [],t,h,l=>by simp only [DO,aU] at h;subst h;rfl
 | (k,B)::r,t,h,l=>by
   simp only [DO] at h
   split at h
   case h_2=>cases h
   rename_i t1 h1
   rw [Tr.hY _ _ _ _ _ h l]
   split
   .rename_i e;subst e;rw [aI]
   .rename_i e;rw [aD (fun q=>e q.symm)];exact Na h1 l
structure qF (Γ:Env) (B:aZ) (F0:Nat) (V0:aY):Prop where
 top:V0.top F0
 aR:bL Γ V0
 cut:∀ l,F0<=l->B l=none
 cells:∀ l b,B l=some b->∃ cs,b.cells V0=some cs
theorem FY {F lab l:Nat} {ls:List Nat} (h:l<F):nm F lab ls l=some l:=by
 unfold nm
 have:Nat.blt l F=true:=by simpa [Nat.blt_eq] using h
 rw [this]
theorem aSc {F lab l i:Nat} {ls:List Nat} (h:F<=l) (hd:Fy ls=true) (hi:ls[i]?=some l):nm F lab ls l=some (lab+i):=by
 unfold nm
 have hb:Nat.blt l F=false:=by
  cases hb:Nat.blt l F with
  | false=>rfl
  | true=>have:l<F:=by simpa [Nat.blt_eq] using hb
          omega
 rw [hb]
 simp only
 cases SE:Ep l ls 0 with
 | none=>
   exfalso
   have:∀ (ms:List Nat) (i:Nat),Ep l ms i=none->l ∉ ms:=by
    intro ms
    induction ms with
    | nil=>intro i _;simp
    | cons a r ih=>
      intro i hi
      simp only [Ep] at hi
      split at hi
      .cases hi
      .rename_i hb
       have:=beq_false hb
       simp only [List.mem_cons,not_or]
       exact ⟨fun q=>this q.symm,ih _ hi⟩
   exact this ls 0 SE (List.mem_of_getElem? hi)
 | some j=>
   simp only
   obtain ⟨_,h6⟩:=vA SE
   have:=vZ hd hi (by simpa using h6)
   congr 1
   omega
section
variable {P:Program} {Γ:Env} {w0:World} {M:Nat->Prop} {B:aZ} {N F0:Nat} {V0:aY}
theorem Inv.norm (hb:qF Γ B F0 V0) {gG eO:List Nat} {hs:List Bool} {s s':St} (h:Uv F0 gG eO hs s=some s') {V:aY} {a:Act} {w:World} (hi:Inv P Γ w0 M B N F0 V0 s V a w) :
 ∃ V',Inv P Γ w0 M B N F0 V0 s' V' a w:=by
 unfold Uv at h
 split at h
 case h_2=>cases h
 rename_i g wr nw hg Xx hnw
 split at h
 case h_2=>cases h
 rename_i tb df htb hdf
 split at h
 case h_2=>cases h
 rename_i gY
 cases h
 simp only [Bool.and_eq_true] at gY
 obtain ⟨uC,hc3,hc4⟩:=gY
 have UH:∀ (i k:Nat),eO[i]?=some k->F0<=k:=fun i k hk=>Nat.le_of_ble_eq_true (List.all_eq_true.1 hc3 k (List.mem_of_getElem? hk))
 have DT:∀ k,k∈s.ws->k<F0:=fun k hk=>by have:=List.all_eq_true.1 hc4 k hk;simpa [Nat.blt_eq] using this
 obtain ⟨CY,hng⟩:=rF hnw
 obtain ⟨hwl,hwg⟩:=rF Xx
 have sD:=Na htb
 obtain ⟨V',Pa⟩:∃ V':aY,V'=⟨fun l=>if l<F0 then V.β l else (eO[l-F0]?).bind V.β,fun l=>if l<F0 then V.σ l else (eO[l-F0]?).bind V.σ⟩:=⟨_,rfl⟩
 have Kw:∀ l,l<F0->V'.β l=V.β l/\V'.σ l=V.σ l:=fun l hl=>by subst Pa;exact ⟨if_pos hl,if_pos hl⟩
 have vhi:∀ i,V'.β (F0+i)=(eO[i]?).bind V.β/\V'.σ (F0+i)=(eO[i]?).bind V.σ:=fun i=>by
  subst Pa
  refine ⟨(if_neg (by omega)).trans ?_,(if_neg (by omega)).trans ?_⟩ <;> rw [show F0+i-F0=i from by omega]
 have aVd:∀ l,F0<=l->V'.β l=(eO[l-F0]?).bind V.β/\V'.σ l=(eO[l-F0]?).bind V.σ:=fun l hl=>by
  have:=vhi (l-F0);rwa [show F0+(l-F0)=l from by omega] at this
 have hle:V0.le V':=by
  refine ⟨fun l p hp=>?_,fun l p hp=>?_⟩
  .by_cases hl:l<F0
   .rw [(Kw l hl).1,(hi.low l hl).1];exact hp
   .rw [(hb.top l (by omega)).1] at hp;cases hp
  .by_cases hl:l<F0
   .rw [(Kw l hl).2,(hi.low l hl).2];exact hp
   .rw [(hb.top l (by omega)).2] at hp;cases hp
 have uG:uO (nm F0 F0 eO) V V':=by
  intro l l' hl
  by_cases cI:l<F0
  .rw [FY cI] at hl
   cases hl
   rw [(Kw l cI).1,(Kw l cI).2]
   exact ⟨fun p hp=>hp,fun p hp=>hp⟩
  .unfold nm at hl
   split at hl
   .rename_i Uj
    exact absurd (by simpa [Nat.blt_eq] using Uj) cI
   .split at hl
    .rename_i i SE
     cases hl
     obtain ⟨_,h2⟩:=vA SE
     have h2:eO[i]?=some l:=by simpa using h2
     rw [(vhi i).1,(vhi i).2,h2]
     exact ⟨fun p hp=>hp,fun p hp=>hp⟩
    .cases hl
 have src:∀ l b,St.T B { g:=g,tb:=tb,nx:=F0+eO.length,ws:=s.ws,ob:=[],df:=df,hs:=hs } l=some b ->
  ∃ k C,s.T B k=some C/\nm F0 F0 eO k=some l/\okB V' w l b/\(∀ n,b.aN V' l=some n->C.aN V k=some n)/\b.owned=C.owned/\kR w0 M V' l b:=by
  intro l b hl
  simp only [St.T,sD l] at hl
  rw [bY] at hl
  cases hw:look l (oK s.ws wr) with
  | some b1=>
    rw [hw] at hl
    cases hl
    obtain ⟨i,h1,h2⟩:=nC hw
    obtain ⟨k,C,h3,h4,h5⟩:=hwg i _ h2
    rw [h1] at h3;cases h3
    have yE:s.T B l=some C:=by simp only [St.T,h4]
    have CX:nm F0 F0 eO l=some l:=FY (DT l (List.mem_of_getElem? h1))
    obtain ⟨r1,r2,r3,r4⟩:=Gu uG CX h5 (hi.eG.ok l C yE)
    exact ⟨l,C,yE,CX,r1,r2,r4,Gt uG CX h5 (hi.eG.sL l C yE)⟩
  | none=>
    rw [hw] at hl
    have Es:=lJ hwl hw
    simp only at hl
    rw [fH] at hl
    by_cases hr:F0<=l
    .rw [if_pos hr] at hl
     cases hn:nw[l-F0]? with
     | some b1=>
       rw [hn] at hl
       cases hl
       obtain ⟨k,C,h3,h4,h5⟩:=hng (l-F0) _ hn
       have yE:s.T B k=some C:=by simp only [St.T,h4]
       have CX:nm F0 F0 eO k=some l:=by
        rw [aSc (UH _ _ h3) uC h3]
        congr 1
        omega
       obtain ⟨r1,r2,r3,r4⟩:=Gu uG CX h5 (hi.eG.ok k C yE)
       exact ⟨k,C,yE,CX,r1,r2,r4,Gt uG CX h5 (hi.eG.sL k C yE)⟩
     | none=>
       rw [hn] at hl
       simp only at hl
       rw [hb.cut l hr] at hl
       cases hl
    .rw [if_neg hr] at hl
     simp only at hl
     have cI:l<F0:=by omega
     have yE:s.T B l=some b:=by simp only [St.T,hi.ch l cI Es,hl]
     obtain ⟨cs,c1,c2⟩:=hi.eG.ok l b yE
     obtain ⟨cs0,c3⟩:=hb.cells l b hl
     have:=SB.iV hi.le c3
     rw [c1] at this
     cases this
     have e1:=(Kw l cI).1
     have e2:=(Kw l cI).2
     refine ⟨l,b,yE,FY cI,⟨cs,SB.iV hle c3,?_⟩,fun n hn=>?_,rfl,?_⟩
     .cases b with
      | own cells ty=>obtain ⟨b,hb,hh⟩:=c2;exact ⟨b,e1.trans hb,hh⟩
      | ints k xs ty=>obtain ⟨b,hb,hh⟩:=c2;exact ⟨b,e1.trans hb,hh⟩
      | eJ vs ty=>obtain ⟨b,hb,hh⟩:=c2;exact ⟨b,e1.trans hb,hh⟩
      | fP cells=>obtain ⟨b,o,hb,hh⟩:=c2;exact ⟨b,o,e1.trans hb,hh⟩
      | nM k xs=>obtain ⟨b,o,hb,hh⟩:=c2;exact ⟨b,o,e1.trans hb,hh⟩
      | cT k xs ty=>obtain ⟨v,hv,hh⟩:=c2;exact ⟨v,e2.trans hv,hh⟩
      | fT sz n ty=>obtain ⟨v,us,hv,hh⟩:=c2;exact ⟨v,us,e2.trans hv,hh⟩
      | row sz cells ty=>obtain ⟨b,cap,cur,hb,hσ,r⟩:=c2;exact ⟨b,cap,cur,e1.trans hb,e2.trans hσ,r⟩
      | gQ k xs=>obtain ⟨v,hv,hh⟩:=c2;exact ⟨v,e2.trans hv,hh⟩
      | fI ds ty=>obtain ⟨v,us,hv,hh⟩:=c2;exact ⟨v,us,e2.trans hv,hh⟩
      | iS pre k ds ty=>obtain ⟨b,cap,cur,hb,hσ,r⟩:=c2;exact ⟨b,cap,cur,e1.trans hb,e2.trans hσ,r⟩
      | eM xs ty=>obtain ⟨v,hv,hh⟩:=c2;exact ⟨v,e2.trans hv,hh⟩
      | qI xs=>obtain ⟨v,hv,hh⟩:=c2;exact ⟨v,e2.trans hv,hh⟩
      | lU ds=>trivial
      | nH d=>trivial
      | gK ds z=>trivial
      | gone=>trivial
     .cases b <;> simp only [SB.aN,e1,e2] at hn |- <;> exact hn
     .have Ap:=hi.eG.sL l b yE
      cases b with
      | lU ds=>obtain ⟨v,us,hσ,r⟩:=Ap;exact ⟨v,us,e2.trans hσ,r⟩
      | nH d=>obtain ⟨u,hσ,r⟩:=Ap;exact ⟨u,e2.trans hσ,r⟩
      | gK ds z=>obtain ⟨v,us,hσ,r⟩:=Ap;exact ⟨v,us,e2.trans hσ,r⟩
      | fI ds ty=>obtain ⟨v,us,hσ,r⟩:=Ap;exact ⟨v,us,e2.trans hσ,r⟩
      | _=>trivial
 refine ⟨V',fun t v hv=>?_,fun d v hv=>?_,hi.size,?_,⟨fun l b hl=>?_,fun l b l' b' n dD hl rK ho Kp Yw=>?_,fun l b n hl ho Kp=>?_,hi.eG.frame,fun l b hl=>(by obtain ⟨_,_,_,_,_,_,_,h⟩:=src l b hl;exact h)⟩,fun n l hl=>hle.1 _ _ (hb.aR n l hl),fun l hl=>?_,hle,fun l hl=>?_,fun l hl hn=>?_,?_,fun l hl=>?_⟩
 .obtain ⟨u,h1,h2⟩:=xS hg t v hv
  exact xF uG h2 (hi.tmp t u h1)
 .obtain ⟨u,h1,_⟩:=xS hg d v hv
  exact hi.keys d u h1
 .obtain ⟨xs,h1,h2⟩:=hi.defers
  exact ⟨xs,lN uG hdf h1,h2⟩
 .obtain ⟨_,_,_,_,h,_⟩:=src l b hl;exact h
 .obtain ⟨k,C,h1,h2,_,h4,h5,_⟩:=src l b hl
  obtain ⟨k',C',Ei,CH,_,h4',_⟩:=src l' b' rK
  have Ao:k≠k':=fun e=>by subst e;rw [h2] at CH;cases CH;exact dD rfl
  exact hi.eG.jN k C k' C' n Ao h1 Ei (h5 ▸ ho) (h4 n Kp) (h4' n Yw)
 .obtain ⟨k,C,h1,h2,_,h4,h5,_⟩:=src l b hl
  exact hi.eG.perm k C n h1 (h5 ▸ ho) (h4 n Kp)
 .have hl:F0+eO.length<=l:=hl
  have:=aVd l (by omega)
  rw [this.1,this.2,List.getElem?_eq_none (by omega)]
  exact ⟨rfl,rfl⟩
 .rw [(Kw l hl).1,(Kw l hl).2];exact hi.low l hl
 .show tb.get l=none
  rw [sD l,bY]
  cases hw:look l (oK s.ws wr) with
  | some b=>
    obtain ⟨i,h1,_⟩:=nC hw
    exact absurd (List.mem_of_getElem? h1) hn
  | none=>
    simp only
    rw [fH,if_neg (by omega)]
 .exact Nat.le_add_right _ _
 .have hl:F0+eO.length<=l:=hl
  have h1:tb.get l=none:=by
   rw [sD l,bY]
   cases hw:look l (oK s.ws wr) with
   | some b=>
     obtain ⟨i,h1,_⟩:=nC hw
     have:=DT l (List.mem_of_getElem? h1)
     omega
   | none=>
     simp only
     rw [fH,if_pos (by omega)]
     exact List.getElem?_eq_none (by rw [CY];omega)
  show (match tb.get l with | some b=>some b | none=>B l)=none
  rw [h1]
  exact hb.cut l (by omega)
theorem G.norm (hb:qF Γ B F0 V0) {gG eO:List Nat} {hs:List Bool} {s s':St} (h:Uv F0 gG eO hs s=some s') {cf:Cf} {K:List Fr} {Q:Exit->Act->World->Prop}
 (hG:G P Γ w0 M B N F0 V0 cf K s' Q):G P Γ w0 M B N F0 V0 cf K s Q:=by
 intro V a w hi
 obtain ⟨V',fS⟩:=hi.norm hb h
 exact hG V' a w fS
end
noncomputable def Li (Γ:Env) (T:aZ) (lab F:Nat) (fn:Func) (x:Ex) (s:St):Option bJ:=match x with
 | .exit _=>none
 | _=>match kV Γ (bH F T) F fn.ntmps s.df s with
   | some s=>match Bc Γ s.g.get (s.T (bH F T)) fn.results.toList with
     | some (ob,rs)=>finish F lab (s.QR ob) (res rs)
     | none=>none
   | none=>none
theorem aCl {P:Program} {Γ:Env} (aT:cA P Γ) (aX:cK P Γ) {fn:Func} {T T2:aZ} {lab F:Nat} {e e':bJ} {w0 w:World} {M:Nat->Prop} {V:aY} {x:Ex} {s:St}
 (aL:∀ l B,T l=some B->T2 l=some B) (hT:aC w0 M V T2 w) (hf:V.fresh lab) (h:Li Γ T lab F fn x s=some e') (ho:∀ q∈e'.bM,q) (hev:e'.val=e.val) (hen:e'.new=e.new) (hew:e'.wr=e.wr)
 {R:Ending->World->Prop} (hR:∀ V' x w',V.ext lab V'->den V' e.val=some x->aC w0 M V' (eI T2 lab e) w'->R (.returned x) w') :
 G P Γ w (jV V (bH F T)) (bH F T) fn.ntmps F V (.at x) [] s (bodyPostD P fn R):=by
 intro V' a' w' fS
 have main:∀ y:Ex,y.to = .normal\/y.to = .ret->(match kV Γ (bH F T) F fn.ntmps s.df s with
   | some s=>match Bc Γ s.g.get (s.T (bH F T)) fn.results.toList with
     | some (ob,rs)=>finish F lab (s.QR ob) (res rs)
     | none=>none
   | none=>none)=some e'->bodyPostD P fn R y.to a' w':=by
  intro y hy h
  split at h
  case h_2=>cases h
  rename_i s2 h2
  split at h
  case h_2=>cases h
  rename_i obr rs Ya
  have DA:e'.bM=obr++s2.ob:=by
   unfold finish at h
   split at h
   .cases h
   .simp only at h
    split at h
    .cases h;rfl
    .cases h
  obtain ⟨ys,iC,Fo⟩:=fS.defers
  have hl:Leaves P fn a'.tmps R a'.defers .returning w':=by
   rw [Fo]
   refine Cu aX h2 (fun q hq=>ho q (DA ▸ List.mem_append_right _ hq)) fS rfl iC fun V3 a3 w3 hi3 ha3=>?_
   obtain ⟨v,hv1,hv2⟩:=Dm (P:=P) (fn:=fn) aT hi3.tmp hi3.eG Ya (fun q hq=>ho q (DA ▸ List.mem_append_left _ hq))
   obtain ⟨_,V2,k1,k2,k3⟩:=He hT aL hf (hi3.QR obr) hv1 h
   refine ⟨v,ha3 ▸ hv2,hR V2 v w3 k1 (hev ▸ k2) ?_⟩
   have:eI T2 lab e=eI T2 lab e':=by
    funext l;simp only [eI,bJ.eG,hen,hew]
   rw [this]
   exact k3
  rcases hy with q | q <;> (rw [q];exact hl)
 cases x with
 | exit id=>cases h
 | normal=>exact main .normal (.inl rfl) h
 | ret=>exact main .ret (.inr rfl) h
theorem gR {P:Program} {Γ:Env} (aT:cA P Γ) (aX:cK P Γ) {f:FuncId} {fn:Func} {c:Code} (uB:P.funcs[f]?=some fn) (dD:(fn.name == "runtime.NumGoroutine")=false) (hc:fn.body=some c)
 {vs:List SV} {T:aZ} {lab F:Nat} {e:bJ} (hn:vs.length<=fn.ntmps) {g:Tr SV} (zS:Bv vs 0 .lf=some g) (hs:List Bool)
 (H:∀ (w0:World) (M:Nat->Prop) (V0:aY) (Q:Exit->Act->World->Prop),qF Γ (bH F T) F V0 ->
  (∀ x s e',Li Γ T lab F fn x s=some e'->(∀ q∈e'.bM,q)->e'.val=e.val->e'.new=e.new->e'.wr=e.wr->G P Γ w0 M (bH F T) fn.ntmps F V0 (.at x) [] s Q) ->
  G P Γ w0 M (bH F T) fn.ntmps F V0 (.go c) [] { g:=g,tb:=.lf,nx:=F,ws:=[],ob:=[],hs:=hs } Q):aF P Γ f vs T lab F e:=by
 intro w0 M V T2 w xs aL hT hg hf hF hx o a K Q hK
 have hlen:=bB hx
 have Me:=xU zS
 have lV:xs.length=vs.length:=hlen
 have eE:qF Γ (bH F T) F V:=by
  refine ⟨hF,hg,fun l hl=>?_,fun l b hl=>?_⟩
  .cases hc:bH F T l with
   | none=>rfl
   | some b=>have:=(kX hc).1;omega
  .obtain ⟨cs,h1,_⟩:=hT.ok l b (aL l b (kX hl).2)
   exact ⟨cs,h1⟩
 have SF:Inv P Γ w (jV V (bH F T)) (bH F T) fn.ntmps F V { g:=g,tb:=.lf,nx:=F,ws:=[],ob:=[],hs:=hs } V { tmps:=xs.toArray++Array.replicate (fn.ntmps-xs.toArray.size) undef,defers:=[] } w:=by
  refine ⟨fun t v hv=>?_,fun d v hv=>?_,?_,⟨[],rfl,rfl⟩,?_,hg,hF,V.le_refl,fun l _=>⟨rfl,rfl⟩,fun l _ _=>rfl,Nat.le_refl _,fun l hl=>?_⟩
  .have:=Me t
   simp only at hv
   rw [hv] at this
   split at this
   .rename_i hr
    obtain ⟨y,h1,h2⟩:=dX hx t v (by simpa using this.symm)
    rw [h2]
    have cI:t<xs.length:=by omega
    have sD:xs[t]?=some y:=h1
    simp [Act.eval,Array.getD_eq_getD_getElem?,Array.getElem?_append,cI] at sD |-
    exact sD.symm
   .cases this
  .have:=Me d
   simp only at hv
   rw [hv] at this
   split at this
   .omega
   .cases this
  .simp
   omega
  .have hp:=aC.part hT (T:=bH F T) (fun l B hl=>aL l B (kX hl).2)
   have:St.T (bH F T) { g:=g,tb:=.lf,nx:=F,ws:=[],ob:=[],hs:=hs }=bH F T:=by funext l;rfl
   rw [this]
   exact hp
  .show (match Tr.get .lf l with | some b=>some b | none=>bH F T l)=none
   simp only [Tr.lG]
   exact eE.cut l hl
 rw [gV uB hc dD,Oper.upon_enter]
 refine calls_of_wp_defers uB hc ?_
 exact H w (jV V (bH F T)) V (bodyPostD P fn _) eE (fun x s e' h ho h1 h2 h3=>aCl aT aX aL hT hf h ho h1 h2 h3 (R:=fun
   | .returned v,RR=>K (a.put o.dst v) RR
   | .panicked chain,RR=>Q (.panic chain) a RR
   | .outgrown,_=>LetsOut Q) (fun V' x w' h1 h2 h3=>hK V' x w' h1 h2 h3)) V _ w SF
def eqI (s s':Bool) (a b:Int):List Prop:=match s&&s' with
 | true=>match Lm a b with
   | true=>[]
   | false=>[a=b]
 | false=>[a=b]
theorem aMj {s s':Bool} {a b:Int} (h:∀ q∈eqI s s' a b,q):a=b:=by
 unfold eqI at h
 split at h
 .split at h
  .rename_i hb;exact Xo hb
  .exact h _ (by simp)
 .exact h _ (by simp)
def Eb (s s':Bool) (a b:Nat):List Prop:=match s&&s' with
 | true=>match Nat.beq a b with
   | true=>[]
   | false=>[a=b]
 | false=>[a=b]
theorem fW {s s':Bool} {a b:Nat} (h:∀ q∈Eb s s' a b,q):a=b:=by
 unfold Eb at h
 split at h
 .split at h
  .rename_i hb;exact cH hb
  .exact h _ (by simp)
 .exact h _ (by simp)
def Yq:List SV->Bool
 | []=>true
 | .int true _ _::r=>Yq r
 | .bool true _::r=>Yq r
 | _=>false
theorem Cz {V V':aY}:∀ {cs:List SV},Yq cs=true->aE V cs=aE V' cs
 | [],_=>rfl
 | v::r,h=>by
   unfold Yq at h
   split at h
   .rename_i e;cases e
   .rename_i e;cases e;simp only [aE,den,Cz (V:=V) (V':=V') h]
   .rename_i e;cases e;simp only [aE,den,Cz (V:=V) (V':=V') h]
   .cases h
def Bj (cs ds:List SV) (els:Option (List Prop)):Option (List Prop):=match Yq cs&&Yq ds with
 | true=>match Ll cs ds with
   | true=>some []
   | false=>none
 | false=>match yI cs,yI ds with
   | some (k,ns),some (k',ms)=>match oI k k' with
     | true=>some [ns=ms]
     | false=>none
   | _,_=>els
theorem vD {cs ds:List SV} {els:Option (List Prop)} {ps:List Prop} (h:Bj cs ds els=some ps) (hp:∀ q∈ps,q):(∀ V V',aE V' ds=aE V cs)\/els=some ps:=by
 unfold Bj at h
 split at h
 .rename_i hl
  simp only [Bool.and_eq_true] at hl
  split at h
  .rename_i hb
   left
   intro V V'
   rw [<- Ag hb]
   exact Cz hl.1
  .cases h
 .split at h
  .rename_i h1 h2
   split at h
   .rename_i hk
    cases h
    have e:=hp _ cM
    have hk:_=_:=of_decide_eq_true hk
    subst e hk
    left
    intro V V'
    rw [Da h1,Da h2]
   .cases h
  .exact .inr h
mutual
def gF:SV->SV->Option (List Prop)
 | .int s k n,.int s' k' n'=>match oI k k' with
   | true=>some (eqI s s' n n')
   | false=>none
 | .bool s b,.bool s' b'=>match s&&s' with
   | true=>match Qi b b' with
     | true=>some []
     | false=>none
   | false=>some [b=b']
 | .agg vs,.agg us=>Bj vs us (uF vs us)
 | .ai k xs,.ai k' ys=>match oI k k' with
   | true=>some [xs=ys]
   | false=>none
 | .agg vs,.ai k ys=>(cX k vs).map fun ns=>[ns=ys]
 | .ai k xs,.agg us=>(cX k us).map fun ns=>[xs=ns]
 | .eL vs,.eL us=>uF vs us
 | .ptr l s o,.ptr l' s' o'=>match Nat.beq l l' with
   | true=>some (Eb s s' o o')
   | false=>none
 | .aG l s o n c,.aG l' s' o' n' c'=>match Nat.beq l l' with
   | true=>some (Eb s s' o o'++(Eb s s' n n'++Eb s s' c c'))
   | false=>none
 | .cP l o n lo,.cP l' o' n' QV=>match Nat.beq l l'&&(Nat.beq o o'&&Nat.beq lo QV) with
   | true=>some (Eb false false n n')
   | false=>none
 | .buf l,.buf l'=>match Nat.beq l l' with
   | true=>some []
   | false=>none
 | .Ub l n c z j le,.Ub l' n' c' z' j' le'=>match Nat.beq l l'&&(Nat.beq z z'&&Nat.beq le le') with
   | true=>some [n=n'/\c=c'/\j=j']
   | false=>none
 | .jH l o,.jH l' o'=>match Nat.beq l l' with
   | true=>some (Eb false false o o')
   | false=>none
 | .mS l lo hi,.mS l' QV fS=>match Nat.beq l l' with
   | true=>some [lo=QV/\hi=fS]
   | false=>none
 | .eV l n,.eV l' n'=>match Nat.beq l l' with
   | true=>some (Eb false false n n')
   | false=>none
 | .sP l n,.sP l' n'=>match Nat.beq l l' with
   | true=>some (Eb false false n n')
   | false=>none
 | .wT l i n,.wT l' i' n'=>match Nat.beq l l' with
   | true=>some [i=i'/\n=n']
   | false=>none
 | .BZ l i,.BZ l' i'=>match Nat.beq l l' with
   | true=>some (Eb false false i i')
   | false=>none
 | .sH t v,.sH t' v'=>match Nat.beq t t' with
   | true=>gF v v'
   | false=>none
 | .fn (.func f) xs ys,.fn (.func g) us vs=>match Nat.beq f g with
   | true=>match uF xs us,uF ys vs with
     | some a,some b=>some (a++b)
     | _,_=>none
   | false=>none
 | .raw (.slice none 0 0),.raw (.slice none 0 0)=>some []
 | .raw (.pointer none),.raw (.pointer none)=>some []
 | .raw .nilIface,.raw .nilIface=>some []
 | .raw .nilFunc,.raw .nilFunc=>some []
 | .raw v,.raw v'=>some [v=v']
 | _,_=>none
def uF:List SV->List SV->Option (List Prop)
 | [],[]=>some []
 | v::r,u::t=>match gF v u,uF r t with
   | some a,some b=>some (a++b)
   | _,_=>none
 | _,_=>none
end
theorem iD {a b:List Prop} (h:∀ q∈a++b,q):∀ q∈a,q:=fun q hq=>h q (List.mem_append_left _ hq)
theorem fB {a b:List Prop} (h:∀ q∈a++b,q):∀ q∈b,q:=fun q hq=>h q (List.mem_append_right _ hq)
mutual
theorem jT {V:aY}:∀ {v u:SV} {ps:List Prop},gF v u=some ps->(∀ q∈ps,q)->den V u=den V v
 | .int s k n,u,ps,h,hp=>by
   cases u <;> simp only [gF] at h <;> first | (cases h;done) | skip
   split at h
   .rename_i hk
    cases h
    rw [aMj hp]
    have:k=_:=of_decide_eq_true hk
    rw [this];rfl
   .cases h
 | .bool s b,u,ps,h,hp=>by
   cases u <;> simp only [gF] at h <;> first | (cases h;done) | skip
   split at h
   .split at h
    .rename_i hb;cases h;rw [rT hb];rfl
    .cases h
   .cases h;have:=hp _ cM;subst this;rfl
 | .agg vs,u,ps,h,hp=>by
   cases u <;> simp only [gF] at h <;> first | (cases h;done) | skip
   case agg=>
    rcases vD h hp with e | e
    .simp only [den,e V V]
    .simp only [den,kO e hp]
   case ai=>
    simp only [Option.map_eq_some_iff] at h
    obtain ⟨ns,hn,rfl⟩:=h
    have e:=hp _ cM
    subst e
    simp only [den,cU hn,Option.map_some]
 | .ai k xs,u,ps,h,hp=>by
   cases u <;> simp only [gF] at h <;> first | (cases h;done) | skip
   case agg=>
    simp only [Option.map_eq_some_iff] at h
    obtain ⟨ns,hn,rfl⟩:=h
    have e:=hp _ cM
    subst e
    simp only [den,cU hn,Option.map_some]
   case ai=>
    split at h
    .rename_i hk
     cases h
     have e:=hp _ cM
     have hk:_=_:=of_decide_eq_true hk
     subst e hk
     rfl
    .cases h
 | .eL vs,u,ps,h,hp=>by
   cases u <;> simp only [gF] at h <;> first | (cases h;done) | skip
   simp only [den,kO h hp]
 | .ptr l s o,u,ps,h,hp=>by
   cases u <;> simp only [gF] at h <;> first | (cases h;done) | skip
   split at h
   .rename_i hl;cases h;simp only [den,fW hp,cH hl]
   .cases h
 | .aG l s o n c,u,ps,h,hp=>by
   cases u <;> simp only [gF] at h <;> first | (cases h;done) | skip
   split at h
   .rename_i hl;cases h;simp only [den,fW (iD hp),fW (iD (fB hp)),fW (fB (fB hp)),cH hl]
   .cases h
 | .cP l o n c,u,ps,h,hp=>by
   cases u <;> simp only [gF] at h <;> first | (cases h;done) | skip
   split at h
   .rename_i hl
    simp only [Bool.and_eq_true] at hl
    obtain ⟨h1,h2,h4⟩:=hl
    cases h
    simp only [den,cH h1,cH h2,fW hp,cH h4]
   .cases h
 | .buf l,u,ps,h,hp=>by
   cases u <;> simp only [gF] at h <;> first | (cases h;done) | skip
   split at h
   .rename_i hl;simp only [den,cH hl]
   .cases h
 | .Ub l n c z j le,u,ps,h,hp=>by
   cases u <;> simp only [gF] at h <;> first | (cases h;done) | skip
   split at h
   .rename_i hl
    simp only [Bool.and_eq_true] at hl
    obtain ⟨h1,h2,h3⟩:=hl
    cases h
    obtain ⟨e1,e2,e3⟩:=hp _ cM
    simp only [den,cH h1,cH h2,cH h3,e1,e2,e3]
   .cases h
 | .jH l o,u,ps,h,hp=>by
   cases u <;> simp only [gF] at h <;> first | (cases h;done) | skip
   split at h
   .rename_i hl;cases h;simp only [den,fW hp,cH hl]
   .cases h
 | .sP l o,u,ps,h,hp=>by
   cases u <;> simp only [gF] at h <;> first | (cases h;done) | skip
   split at h
   .rename_i hl;cases h;simp only [den,fW hp,cH hl]
   .cases h
 | .BZ l o,u,ps,h,hp=>by
   cases u <;> simp only [gF] at h <;> first | (cases h;done) | skip
   split at h
   .rename_i hl;cases h;simp only [den,fW hp,cH hl]
   .cases h
 | .wT l lo hi,u,ps,h,hp=>by
   cases u <;> simp only [gF] at h <;> first | (cases h;done) | skip
   split at h
   .rename_i hl;cases h;obtain ⟨e1,e2⟩:=hp _ cM;simp only [den,e1,e2,cH hl]
   .cases h
 | .mS l lo hi,u,ps,h,hp=>by
   cases u <;> simp only [gF] at h <;> first | (cases h;done) | skip
   split at h
   .rename_i hl;cases h;obtain ⟨e1,e2⟩:=hp _ cM;simp only [den,e1,e2,cH hl]
   .cases h
 | .eV l n,u,ps,h,hp=>by
   cases u <;> simp only [gF] at h <;> first | (cases h;done) | skip
   split at h
   .rename_i hl;cases h;simp only [den,fW hp,cH hl]
   .cases h
 | .sH t v,u,ps,h,hp=>by
   cases u <;> simp only [gF] at h <;> first | (cases h;done) | skip
   split at h
   .rename_i hl;simp only [den,jT h hp,cH hl]
   .cases h
 | .fn f xs ys,u,ps,h,hp=>by
   cases f with
   | func f=>
     cases u with
     | fn g us vs=>
       cases g with
       | func g=>
         simp only [gF] at h
         split at h
         .rename_i hf
          split at h
          .rename_i a b ha hb
           cases h
           simp only [den,kO ha (iD hp),kO hb (fB hp),cH hf]
          .cases h
         .cases h
       | _=>simp [gF] at h
     | _=>simp [gF] at h
   | _=>cases u <;> simp [gF] at h
 | .raw v,u,ps,h,hp=>by
   cases u with
   | raw v'=>
     unfold gF at h
     split at h
     all_goals first
      | (cases h;have e:=hp _ cM;rename_i e1 e2;cases e1;cases e2;rw [e];done)
      | (rename_i e1 e2;cases e1;cases e2;rfl)
      | (cases h;have e:=hp _ cM;rename_i e1 e2 _;cases e1;cases e2;rw [e];done)
      | (simp_all;done)
      | skip
   | _=>simp [gF] at h
theorem kO {V:aY}:∀ {vs us:List SV} {ps:List Prop},uF vs us=some ps->(∀ q∈ps,q)->aE V us=aE V vs
 | [],us,ps,h,hp=>by
   cases us with
   | nil=>rfl
   | cons=>simp [uF] at h
 | v::r,us,ps,h,hp=>by
   cases us with
   | nil=>simp [uF] at h
   | cons u t=>
     simp only [uF] at h
     split at h
     .rename_i a b ha hb
      cases h
      simp only [aE,jT ha (iD hp),kO hb (fB hp)]
     .cases h
end
def eU:SB->SB->Option (List Prop)
 | _,.gone=>some []
 | .own cs t,.own ds t'=>match Nat.beq t t' with
   | true=>Bj cs ds (uF cs ds)
   | false=>none
 | .own cs t,.ints k xs t'=>match cX k cs with
   | some ns=>some [ns=xs/\t=t']
   | none=>none
 | .ints k xs t,.ints k' ys t'=>match oI k k' with
   | true=>some [xs=ys/\t=t']
   | false=>none
 | .ints k xs t,.own ds t'=>match cX k ds with
   | some ns=>some [xs=ns/\t=t']
   | none=>none
 | .fP cs,.fP ds=>Bj cs ds (uF cs ds)
 | .fP cs,.nM k xs=>(cX k cs).map fun ns=>[ns=xs]
 | .nM k xs,.nM k' ys=>match oI k k' with
   | true=>some [xs=ys]
   | false=>none
 | .fT sz n t,.fT CN n' t'=>match Nat.beq sz CN&&Nat.beq t t' with
   | true=>some (Eb false false n n')
   | false=>none
 | .cT k xs t,.cT k' ys t'=>match Nat.beq t t'&&oI k k' with
   | true=>some [xs=ys]
   | false=>none
 | .row z cs t,.row z' ds t'=>match Nat.beq t t'&&Nat.beq z z' with
   | true=>uF cs ds
   | false=>none
 | .eJ vs t,.eJ us t'=>match Nat.beq t t' with
   | true=>some [vs=us]
   | false=>none
 | .own cs t,.eJ us t'=>match Nat.beq t t' with
   | true=>some [∀ V:aY,aE V cs=some us]
   | false=>none
 | .eJ vs t,.own ds t'=>match Nat.beq t t' with
   | true=>some [∀ V:aY,aE V ds=some vs]
   | false=>none
 | .gQ k xs,.gQ k' ys=>match oI k k' with
   | true=>some [xs=ys]
   | false=>none
 | .iS pre l ds t,.iS DQ l' es t'=>match Nat.beq t t'&&Nat.beq l l' with
   | true=>(uF pre DQ).map fun ps=>(ds=es)::ps
   | false=>none
 | .eM xs t,.eM ys t'=>match Nat.beq t t' with
   | true=>some [xs=ys]
   | false=>none
 | .qI xs,.qI ys=>some [xs=ys]
 | .lU ds,.lU es=>some [ds=es]
 | .nH d,.nH e=>some [d=e]
 | .gK ds z,.gK es y=>some [ds=es/\z=y]
 | .fI ds t,.fI es t'=>match Nat.beq t t' with
   | true=>some [ds=es]
   | false=>none
 | _,_=>none
theorem YI {V:aY} {w:World} {l:Nat} {B C:SB} {ps:List Prop} (h:eU B C=some ps) (hp:∀ q∈ps,q) (lS:okB V w l B) :
 okB V w l C/\(∀ n,C.aN V l=some n->B.aN V l=some n)/\(C.owned=B.owned\/C = .gone):=by
 have gone:∀ {D:SB},okB V w l .gone/\(∀ n,SB.gone.aN V l=some n->D.aN V l=some n)/\(SB.gone.owned=D.owned\/SB.gone = .gone):=fun {D}=>⟨⟨[],rfl,trivial⟩,(fun n hn=>by cases hn),Or.inr rfl⟩
 obtain ⟨cs,hc,h2⟩:=lS
 cases C with
 | gone=>exact gone
 | own ds t'=>
   cases B with
   | own es t=>
     have key:t=t'/\aE V ds=aE V es:=by
      simp only [eU] at h
      split at h
      .rename_i ht
       refine ⟨cH ht,?_⟩
       rcases vD h hp with e | e
       .exact e V V
       .exact kO e hp
      .cases h
     obtain ⟨rfl,hd⟩:=key
     exact ⟨⟨cs,hd.trans hc,h2⟩,fun n hn=>hn,.inl rfl⟩
   | ints k xs t=>
     simp only [eU] at h
     split at h
     .rename_i hk
      cases h
      obtain ⟨e,ht⟩:=hp _ cM
      subst e ht
      simp only [SB.cells,aU] at hc
      subst hc
      exact ⟨⟨_,cU hk,h2⟩,fun n hn=>hn,.inl rfl⟩
     .cases h
   | eJ vs t=>
     simp only [eU] at h
     split at h
     .rename_i ht
      cases h
      have e:=hp _ cM
      have h3:=cH ht
      subst h3
      simp only [SB.cells,aU] at hc
      subst hc
      exact ⟨⟨_,e V,h2⟩,fun n hn=>hn,.inl rfl⟩
     .cases h
   | _=>simp [eU] at h
 | ints k xs t'=>
   cases B with
   | own es t=>
     simp only [eU] at h
     split at h
     .rename_i hk
      cases h
      obtain ⟨e,ht⟩:=hp _ cM
      subst e ht
      have:some cs=some _:=hc.symm.trans (cU hk)
      cases this
      exact ⟨⟨_,rfl,h2⟩,fun n hn=>hn,.inl rfl⟩
     .cases h
   | ints k2 ys t=>
     simp only [eU] at h
     split at h
     .rename_i ht
      cases h
      obtain ⟨e,h3⟩:=hp _ cM
      have h4:_=_:=of_decide_eq_true ht
      subst e h3 h4
      exact ⟨⟨cs,hc,h2⟩,fun n hn=>hn,.inl rfl⟩
     .cases h
   | _=>simp [eU] at h
 | fP ds=>
   cases B with
   | fP es=>
     have hd:aE V ds=aE V es:=by
      simp only [eU] at h
      rcases vD h hp with e | e
      .exact e V V
      .exact kO e hp
     exact ⟨⟨cs,hd.trans hc,h2⟩,fun n hn=>hn,.inl rfl⟩
   | _=>simp [eU] at h
 | nM k xs=>
   cases B with
   | fP es=>
     simp only [eU,Option.map_eq_some_iff] at h
     obtain ⟨ns,hk,rfl⟩:=h
     have e:=hp _ cM
     subst e
     have:some cs=some _:=hc.symm.trans (cU hk)
     cases this
     exact ⟨⟨_,rfl,h2⟩,fun n hn=>hn,.inl rfl⟩
   | nM k2 ys=>
     simp only [eU] at h
     split at h
     .rename_i ht
      cases h
      have e:=hp _ cM
      have h4:_=_:=of_decide_eq_true ht
      subst e h4
      exact ⟨⟨cs,hc,h2⟩,fun n hn=>hn,.inl rfl⟩
     .cases h
   | _=>simp [eU] at h
 | fT z m t'=>
   cases B with
   | fT z2 m2 t=>
     simp only [eU] at h
     split at h
     .rename_i ht
      cases h
      simp only [Bool.and_eq_true] at ht
      have h3:=cH ht.1
      have h4:=cH ht.2
      have e:=fW hp
      subst h3 h4 e
      exact ⟨⟨cs,hc,h2⟩,fun n hn=>hn,.inl rfl⟩
     .cases h
   | _=>simp [eU] at h
 | cT k xs t'=>
   cases B with
   | cT k2 ys t=>
     simp only [eU] at h
     split at h
     .rename_i ht
      cases h
      simp only [Bool.and_eq_true] at ht
      have e:=hp _ cM
      have h3:=cH ht.1
      have h4:_=_:=of_decide_eq_true ht.2
      subst e h3 h4
      exact ⟨⟨cs,hc,h2⟩,fun n hn=>hn,.inl rfl⟩
     .cases h
   | _=>simp [eU] at h
 | row z ds t'=>
   cases B with
   | row z2 es t=>
     simp only [eU] at h
     split at h
     .rename_i ht
      simp only [Bool.and_eq_true] at ht
      have h3:=cH ht.1
      have h4:=cH ht.2
      subst h3 h4
      exact ⟨⟨cs,(kO h hp).trans hc,h2⟩,fun n hn=>hn,.inl rfl⟩
     .cases h
   | _=>simp [eU] at h
 | gQ k xs=>
   cases B with
   | gQ k2 ys=>
     simp only [eU] at h
     split at h
     .rename_i ht
      cases h
      have e:=hp _ cM
      have h4:_=_:=of_decide_eq_true ht
      subst e h4
      exact ⟨⟨cs,hc,h2⟩,fun n hn=>hn,.inl rfl⟩
     .cases h
   | _=>simp [eU] at h
 | iS DQ k' es t'=>
   cases B with
   | iS pre k ds t=>
     simp only [eU] at h
     split at h
     .rename_i ht
      simp only [Option.map_eq_some_iff] at h
      obtain ⟨CQ,hr,rfl⟩:=h
      simp only [Bool.and_eq_true] at ht
      have h3:=cH ht.1
      have h4:=cH ht.2
      have e:=hp _ cM
      subst h3 h4 e
      have hd:=kO (V:=V) hr (fun q hq=>hp q (List.mem_cons_of_mem _ hq))
      refine ⟨⟨cs,?_,h2⟩,fun n hn=>hn,.inl rfl⟩
      obtain ⟨ys,zs,e1,e2,rfl⟩:=pQ (show aE V (pre++Ec k 0 ds)=some cs from hc)
      exact cF (hd.trans e1) e2
     .cases h
   | _=>simp [eU] at h
 | qI ds=>
   cases B with
   | qI es=>
     simp only [eU,aU] at h
     subst h
     have e:=hp _ cM
     subst e
     exact ⟨⟨cs,hc,h2⟩,fun n hn=>hn,.inl rfl⟩
   | _=>simp [eU] at h
 | eM ds t'=>
   cases B with
   | eM es t=>
     simp only [eU] at h
     split at h
     .rename_i ht
      cases h
      have e:=hp _ cM
      have h3:=cH ht
      subst e h3
      exact ⟨⟨cs,hc,h2⟩,fun n hn=>hn,.inl rfl⟩
     .cases h
   | _=>simp [eU] at h
 | nH ds=>
   cases B with
   | nH es=>
     simp only [eU,aU] at h
     subst h
     have e:=hp _ cM
     subst e
     exact ⟨⟨cs,hc,h2⟩,fun n hn=>hn,.inl rfl⟩
   | _=>simp [eU] at h
 | gK ds z=>
   cases B with
   | gK es y=>
     simp only [eU,aU] at h
     subst h
     obtain ⟨e1,e2⟩:=hp _ cM
     subst e1 e2
     exact ⟨⟨cs,hc,h2⟩,fun n hn=>hn,.inl rfl⟩
   | _=>simp [eU] at h
 | lU ds=>
   cases B with
   | lU es=>
     simp only [eU,aU] at h
     subst h
     have e:=hp _ cM
     subst e
     exact ⟨⟨cs,hc,h2⟩,fun n hn=>hn,.inl rfl⟩
   | _=>simp [eU] at h
 | fI ds t'=>
   cases B with
   | fI es t=>
     simp only [eU] at h
     split at h
     .rename_i ht
      cases h
      have e:=hp _ cM
      have h3:=cH ht
      subst e h3
      exact ⟨⟨cs,hc,h2⟩,fun n hn=>hn,.inl rfl⟩
     .cases h
   | _=>simp [eU] at h
 | eJ us t'=>
   cases B with
   | own es t=>
     simp only [eU] at h
     split at h
     .rename_i ht
      cases h
      have e:=hp _ cM
      have h3:=cH ht
      subst h3
      have:some cs=some us:=hc.symm.trans (e V)
      cases this
      exact ⟨⟨_,rfl,h2⟩,fun n hn=>hn,.inl rfl⟩
     .cases h
   | eJ vs t=>
     simp only [eU] at h
     split at h
     .rename_i ht
      cases h
      have e:=hp _ cM
      have h3:=cH ht
      subst e h3
      exact ⟨⟨cs,hc,h2⟩,fun n hn=>hn,.inl rfl⟩
     .cases h
   | _=>simp [eU] at h
theorem KY {w0:World} {M:Nat->Prop} {V:aY} {l:Nat} {B C:SB} {ps:List Prop} (h:eU B C=some ps) (hp:∀ q∈ps,q) (hf:kR w0 M V l B):kR w0 M V l C:=by
 cases C with
 | nH ds=>
   cases B with
   | nH es=>
     simp only [eU,aU] at h
     subst h
     have e:=hp _ cM
     subst e
     exact hf
   | _=>simp [eU] at h
 | gK ds z=>
   cases B with
   | gK es y=>
     simp only [eU,aU] at h
     subst h
     obtain ⟨e1,e2⟩:=hp _ cM
     subst e1 e2
     exact hf
   | _=>simp [eU] at h
 | lU ds=>
   cases B with
   | lU es=>
     simp only [eU,aU] at h
     subst h
     have e:=hp _ cM
     subst e
     exact hf
   | _=>simp [eU] at h
 | fI ds t'=>
   cases B with
   | fI es t=>
     simp only [eU] at h
     split at h
     .cases h
      have e:=hp _ cM
      subst e
      exact hf
     .cases h
   | _=>simp [eU] at h
 | _=>trivial
noncomputable def Aw {α:Type}:List (Nat × α)->Tr α
 | []=>.lf
 | (k,v)::r=>match Tr.put v 64 (Aw r) k with
   | some t=>t
   | none=>.lf
theorem qW {α:Type}:∀ {l:List (Nat × α)} (n:Nat) (v:α),(Aw l).get n=some v->look n l=some v
 | [],n,v,h=>by rw [Aw,Tr.lG] at h;cases h
 | (k,u)::r,n,v,h=>by
   unfold Aw at h
   split at h
   .rename_i t ht
    rw [Tr.hY _ _ _ _ _ ht n] at h
    split at h
    .rename_i e;subst e;cases h;exact aI _ _ _
    .rename_i e;rw [aD (fun q=>e q.symm)];exact qW n v h
   .rw [Tr.lG] at h;cases h
noncomputable def cB (gs:List (Nat × SV)) (tb:List (Nat × SB)) (nx:Nat) (ws:List Nat) (df:List SV):St:={ g:=Aw gs,tb:=Aw tb,nx:=nx,ws:=ws,ob:=[],df:=df,hs:=[] }
noncomputable def St.hint (s:St) (hs:List Bool):St:={ s with hs:=hs }
def Vg (g:Nat->Option SV):List (Nat × SV)->Option (List Prop)
 | []=>some []
 | (t,u)::r=>match g t with
   | some v=>match gF v u,Vg g r with
     | some a,some b=>some (a++b)
     | _,_=>none
   | none=>none
def Vh (g:Nat->Option SB):List (Nat × SB)->Option (List Prop)
 | []=>some []
 | (t,u)::r=>match g t with
   | some v=>match eU v u,Vh g r with
     | some a,some b=>some (a++b)
     | _,_=>none
   | none=>none
def aDs (o:Option SB):Bool:=match o with
 | some _=>true
 | none=>false
noncomputable def HW (F0:Nat) (B:aZ) (gs:List (Nat × SV)) (tb:List (Nat × SB)) (nx:Nat) (ws:List Nat) (df:List SV) (s:St):Option (List Prop):=
 match Vg s.g.get gs,Vh (s.T B) tb,uF s.df df with
 | some a,some b,some c=>match Nat.beq s.nx nx&&((s.ws.all fun l=>ws.elem l)&&((ws.all fun l=>aDs ((Aw tb).get l))&&tb.all fun p=>Nat.ble F0 p.1||ws.elem p.1)) with
   | true=>some (a++(b++c))
   | false=>none
 | _,_,_=>none
theorem Nv {g:Nat->Option SV}:∀ {gs:List (Nat × SV)} {ps:List Prop},Vg g gs=some ps->(∀ q∈ps,q)->∀ t u,look t gs=some u->∃ v,g t=some v/\∀ V,den V u=den V v
 | [],ps,h,hp,t,u,hl=>by cases hl
 | (k,u')::r,ps,h,hp,t,u,hl=>by
   simp only [Vg] at h
   split at h
   case h_2=>cases h
   rename_i v hv
   split at h
   case h_2=>cases h
   rename_i a b ha hb
   cases h
   by_cases e:k=t
   .subst e;rw [aI] at hl;cases hl;exact ⟨v,hv,fun V=>jT ha (iD hp)⟩
   .rw [aD e] at hl;exact Nv hb (fB hp) t u hl
theorem Nw {g:Nat->Option SB}:∀ {gs:List (Nat × SB)} {ps:List Prop},Vh g gs=some ps->(∀ q∈ps,q)->∀ t u,look t gs=some u->∃ v CQ,g t=some v/\eU v u=some CQ/\∀ q∈CQ,q
 | [],ps,h,hp,t,u,hl=>by cases hl
 | (k,u')::r,ps,h,hp,t,u,hl=>by
   simp only [Vh] at h
   split at h
   case h_2=>cases h
   rename_i v hv
   split at h
   case h_2=>cases h
   rename_i a b ha hb
   cases h
   by_cases e:k=t
   .subst e;rw [aI] at hl;cases hl;exact ⟨v,a,hv,ha,iD hp⟩
   .rw [aD e] at hl;exact Nw hb (fB hp) t u hl
section
variable {P:Program} {Γ:Env} {w0:World} {M:Nat->Prop} {B:aZ} {N F0:Nat} {V0:aY}
theorem Inv.cast (hb:qF Γ B F0 V0) {gs:List (Nat × SV)} {tb:List (Nat × SB)} {nx:Nat} {ws:List Nat} {df:List SV} {s:St} {ps:List Prop} (h:HW F0 B gs tb nx ws df s=some ps) (hp:∀ q∈ps,q)
 {V:aY} {a:Act} {w:World} (hi:Inv P Γ w0 M B N F0 V0 s V a w):Inv P Γ w0 M B N F0 V0 (cB gs tb nx ws df) V a w:=by
 unfold HW at h
 split at h
 case h_2=>cases h
 rename_i pa pb pc ha DG hc
 split at h
 case h_2=>cases h
 rename_i gY
 cases h
 simp only [Bool.and_eq_true] at gY
 obtain ⟨k1,k2,k3,k4⟩:=gY
 have k1:=cH k1
 subst k1
 have k2:∀ l,l∈s.ws->l∈ws:=fun l hl=>by simpa using List.all_eq_true.1 k2 l hl
 have hG:=Nv ha (iD hp)
 have hB:=Nw DG (iD (fB hp))
 have hD:aE V df=aE V s.df:=kO hc (fB (fB hp))
 have src:∀ l b,(Aw tb).get l=some b->∃ C,s.T B l=some C/\okB V w l b/\(∀ n,b.aN V l=some n->C.aN V l=some n)/\(b.owned=C.owned\/b = .gone)/\kR w0 M V l b:=by
  intro l b hl
  obtain ⟨C,CQ,h4,h2,h3⟩:=hB l b (qW l b hl)
  obtain ⟨r1,r2,r3⟩:=YI h2 h3 (hi.eG.ok l C h4)
  exact ⟨C,h4,r1,r2,r3,KY h2 h3 (hi.eG.sL l C h4)⟩
 have low:∀ l,(Aw tb).get l=none->∀ b,B l=some b->s.T B l=some b:=by
  intro l hl b Uj
  have cI:l<F0:=by
   apply Nat.lt_of_not_le
   intro q
   rw [hb.cut l q] at Uj
   cases Uj
  have hnw:l ∉ s.ws:=fun hm=>by
   have:=List.all_eq_true.1 k3 l (k2 l hm)
   rw [hl] at this
   cases this
  simp only [St.T,hi.ch l cI hnw,Uj]
 have Yi:∀ l b,(cB gs tb s.nx ws df).T B l=some b->∃ C,s.T B l=some C/\okB V w l b/\(∀ n,b.aN V l=some n->C.aN V l=some n)/\(b.owned=C.owned\/b = .gone)/\kR w0 M V l b:=by
  intro l b hl
  simp only [St.T,cB] at hl
  cases hg:(Aw tb).get l with
  | some b'=>rw [hg] at hl;cases hl;exact src l _ hg
  | none=>
    rw [hg] at hl
    have:=low l hg b hl
    exact ⟨b,this,hi.eG.ok l b this,fun n hn=>hn,.inl rfl,hi.eG.sL l b this⟩
 refine ⟨fun t v hv=>?_,fun d v hv=>?_,hi.size,?_,⟨fun l b hl=>?_,fun l b l' b' n dD hl rK ho Kp Yw=>?_,fun l b n hl ho Kp=>?_,hi.eG.frame,fun l b hl=>(Yi l b hl).choose_spec.2.2.2.2⟩,hi.aR,hi.top,hi.le,hi.low,fun l hl hn=>?_,hi.nx,fun l hl=>?_⟩
 .obtain ⟨u,h1,h2⟩:=hG t v (qW t v hv)
  rw [h2]
  exact hi.tmp t u h1
 .obtain ⟨u,h1,_⟩:=hG d v (qW d v hv)
  exact hi.keys d u h1
 .obtain ⟨xs,h1,h2⟩:=hi.defers
  exact ⟨xs,hD.trans h1,h2⟩
 .exact (Yi l b hl).choose_spec.2.1
 .obtain ⟨C,h1,_,h3,h4,_⟩:=Yi l b hl
  obtain ⟨C',Ei,_,h3',_⟩:=Yi l' b' rK
  have hCo:C.owned=true:=by
   rcases h4 with h4 | h4
   .rw [<- h4];exact ho
   .subst h4;cases ho
  exact hi.eG.jN l C l' C' n dD h1 Ei hCo (h3 n Kp) (h3' n Yw)
 .obtain ⟨C,h1,_,h3,h4,_⟩:=Yi l b hl
  have hCo:C.owned=true:=by
   rcases h4 with h4 | h4
   .rw [<- h4];exact ho
   .subst h4;cases ho
  exact hi.eG.perm l C n h1 hCo (h3 n Kp)
 .cases hg:(Aw tb).get l with
  | none=>exact hg
  | some b=>
    have hm:=List.all_eq_true.1 k4 _ (fY (qW l b hg))
    simp only [Bool.or_eq_true] at hm
    rcases hm with hm | hm
    .have:=Nat.le_of_ble_eq_true hm;omega
    .exact absurd (show l∈ws by simpa using hm) hn
 .cases hg:(cB gs tb s.nx ws df).T B l with
  | none=>rfl
  | some b=>obtain ⟨C,h1,_⟩:=Yi l b hg;rw [hi.hi l hl] at h1;cases h1
noncomputable def QP (F0:Nat) (B:aZ) (eO:List Nat) (gs:List (Nat × SV)) (tb:List (Nat × SB)) (nx:Nat) (ws:List Nat) (df:List SV) (r:Option pU):Option (Cf × List Fr × List Prop):=match r with
 | some r=>match Uv F0 (gs.map (·.1)) eO [] r.st with
   | some s=>match HW F0 B gs tb nx ws df s with
     | some ps=>some (r.cf,r.fr,r.st.ob++ps)
     | none=>none
   | none=>none
 | none=>none
theorem G.to (aT:cA P Γ) (aX:cK P Γ) (jF:P.follows .mixedOrders=true) (hb:qF Γ B F0 V0) {stops:List Nat} {lf n:Nat} {cf CJ:Cf} {K K':List Fr} {s:St} (hs:List Bool) {eO:List Nat} {gs:List (Nat × SV)} {tb:List (Nat × SB)} {nx:Nat} {ws:List Nat} {df:List SV} {ps:List Prop} {Q:Exit->Act->World->Prop}
 (h:QP F0 B eO gs tb nx ws df (gZ Γ B F0 N stops lf n cf K (s.hint hs))=some (CJ,K',ps)) (hp:∀ q∈ps,q) (hG:G P Γ w0 M B N F0 V0 CJ K' (cB gs tb nx ws df) Q):G P Γ w0 M B N F0 V0 cf K s Q:=by
 unfold QP at h
 split at h
 case h_2=>cases h
 rename_i r hr
 split at h
 case h_2=>cases h
 rename_i s1 h1
 split at h
 case h_2=>cases h
 rename_i CQ h2
 cases h
 have dR:G P Γ w0 M B N F0 V0 cf K (s.hint hs) Q:=by
  refine G.run aT aX jF hr (iD hp) (G.norm hb h1 ?_)
  intro V a w hi
  exact hG V a w (hi.cast hb h2 (fB hp))
 intro V a w hi
 exact dR V a w (hi.hints s.ob hs)
theorem G.round (aT:cA P Γ) (aX:cK P Γ) (jF:P.follows .mixedOrders=true) (hb:qF Γ B F0 V0) {stops:List Nat} {lf n:Nat} {cf:Cf} {K1 K:List Fr} {s:St} (hs:List Bool) {eO:List Nat} {gs:List (Nat × SV)} {tb:List (Nat × SB)} {nx:Nat} {ws:List Nat} {df:List SV} {ps:List Prop} {Q:Exit->Act->World->Prop} {S:Nat->St->Prop} {r:Nat}
 (h:QP F0 B eO gs tb nx ws df (gZ Γ B F0 N stops lf n cf K1 (s.hint hs))=some (.at .normal,[],ps)) (hp:∀ q∈ps,q) (r':Nat) (cI:r'<r) (hS:S r' (cB gs tb nx ws df)) :
 G P Γ w0 M B N F0 V0 cf K1 s (Exit.then (fun a w=>∃ r',r'<r/\∃ s',S r' s'/\∃ V,Inv P Γ w0 M B N F0 V0 s' V a w) (KQ P K Q)):=
 G.to aT aX jF hb hs h hp (G.again fun V _ _ hi=>⟨r',cI,_,hS,V,hi⟩)
noncomputable def Lj (Γ:Env) (T:aZ) (lab F:Nat) (fn:Func) (r:Option pU):Option bJ:=match r with
 | some r=>match r.cf,r.fr with
   | .at x,[]=>Li Γ T lab F fn x r.st
   | _,_=>none
 | none=>none
theorem AS {F lab:Nat} {s:St} {v:SV} {e:bJ} (h:finish F lab s v=some e):e.bM=s.ob:=by
 unfold finish at h
 split at h
 .cases h
 .simp only at h
  split at h
  .cases h;rfl
  .cases h
theorem Xj {Γ:Env} {T:aZ} {lab F:Nat} {fn:Func} {x:Ex} {s:St} {e:bJ} (h:Li Γ T lab F fn x s=some e):∀ q∈s.ob,q∈e.bM:=by
 have main:(match kV Γ (bH F T) F fn.ntmps s.df s with
   | some s=>match Bc Γ s.g.get (s.T (bH F T)) fn.results.toList with
     | some (ob,rs)=>finish F lab (s.QR ob) (res rs)
     | none=>none
   | none=>none)=some e->∀ q∈s.ob,q∈e.bM:=by
  intro h q hq
  split at h
  case h_2=>cases h
  rename_i s2 h2
  split at h
  case h_2=>cases h
  rw [AS h]
  exact List.mem_append_right _ (vX h2 q hq)
 cases x with
 | exit id=>cases h
 | normal=>exact main h
 | ret=>exact main h
theorem G.fin (aT:cA P Γ) (aX:cK P Γ) (jF:P.follows .mixedOrders=true) {T:aZ} {lab:Nat} {fn:Func} {e e':bJ} {stops:List Nat} {lf n:Nat} {cf:Cf} {K:List Fr} {s:St} (hs:List Bool) {Q:Exit->Act->World->Prop}
 (H:∀ x s e',Li Γ T lab F0 fn x s=some e'->(∀ q∈e'.bM,q)->e'.val=e.val->e'.new=e.new->e'.wr=e.wr->G P Γ w0 M (bH F0 T) fn.ntmps F0 V0 (.at x) [] s Q)
 (h:Lj Γ T lab F0 fn (gZ Γ (bH F0 T) F0 fn.ntmps stops lf n cf K (s.hint hs))=some e') (hp:∀ q∈e'.bM,q) (h1:e'.val=e.val) (h2:e'.new=e.new) (h3:e'.wr=e.wr) :
 G P Γ w0 M (bH F0 T) fn.ntmps F0 V0 cf K s Q:=by
 unfold Lj at h
 split at h
 case h_2=>cases h
 rename_i r hr
 split at h
 case h_2=>cases h
 rename_i x hx hf
 have dR:G P Γ w0 M (bH F0 T) fn.ntmps F0 V0 cf K (s.hint hs) Q:=by
  refine G.run aT aX jF hr (fun q hq=>hp q (Xj h q hq)) ?_
  rw [hx,hf]
  exact H x r.st e' h hp h1 h2 h3
 intro V a w hi
 exact dR V a w (hi.hints s.ob hs)
end
def cW (T:aZ) (k:IntKind):SV->Option (List Prop × List Int)
 | .raw (.slice none 0 0)=>some ([],[])
 | .aG l _ off len cap=>match T l with
   | some (.ints k2 xs _)=>match oI k k2 with
     | true=>some ([off+len<=xs.length/\len<=cap],(xs.drop off).take len)
     | false=>none
   | some (.nM k2 xs)=>match oI k k2 with
     | true=>some ([off+len<=xs.length/\len<=cap],(xs.drop off).take len)
     | false=>none
   | some (.own cs _)=>match cX k cs with
     | some xs=>some ([off+len<=xs.length/\len<=cap],(xs.drop off).take len)
     | none=>none
   | some (.fP cs)=>match cX k cs with
     | some xs=>some ([off+len<=xs.length/\len<=cap],(xs.drop off).take len)
     | none=>none
   | _=>none
 | .buf l=>match T l with
   | some (.cT k2 xs _)=>match oI k k2 with
     | true=>some ([],xs)
     | false=>none
   | _=>none
 | .mS l lo hi=>match T l with
   | some (.cT k2 xs _)=>match oI k k2 with
     | true=>some ([lo<=hi/\hi<=xs.length],(xs.drop lo).take (hi-lo))
     | false=>none
   | _=>none
 | .eV l _=>match T l with
   | some (.gQ k2 xs)=>match oI k k2 with
     | true=>some ([],xs)
     | false=>none
   | some (.nH xs)=>match oI k .u8 with
     | true=>some ([],xs)
     | false=>none
   | _=>none
 | .cP l off len lo=>match T l with
   | some (.row sz cs _)=>match Nat.beq sz 1,cX k cs with
     | true,some xs=>some ([off+len<=xs.length/\lo<=off],(xs.drop off).take len)
     | _,_=>none
   | _=>none
 | .wT l i _=>match T l,oI k .u8 with
   | some (.lU ds),true=>some ([],ds.getD i [])
   | some (.fI ds _),true=>some ([],ds.getD i [])
   | _,_=>none
 | _=>none
section
variable {w0 w:World} {M:Nat->Prop} {V:aY} {T:aZ}
theorem Zm {k:IntKind} {v:SV} {x:Value} {ob:List Prop} {ys:List Int} (dD:∀ l i n,v ≠ .wT l i n) (hnf:∀ l n d,v = .eV l n->T l≠some (.nH d)) (hT:aC w0 M V T w) (hv:den V v=some x) (h:cW T k v=some (ob,ys)) (ho:∀ q∈ob,q) :
 pE w k x ys/\∀ n,eQ x=some n->∃ l B,uL v=some l/\T l=some B/\B.aN V l=some n:=by
 have aG:∀ (l:Nat) (B:SB) (s:Bool) (off len cap:Nat) (xs:List Int),v = .aG l s off len cap->T l=some B->B.cells V=some (xs.map (Value.int k)) ->
  (∀ b o,V.β l=some (b,o)->b<w.heap.size/\B.aN V l=some b/\∀ (j:Nat) (u:Value),(xs.map (Value.int k))[j]?=some u->w.cell? ⟨b,o+j,none⟩=some u) ->
  off+len<=xs.length->len<=cap->ys=(xs.drop off).take len->pE w k x ys/\∀ n,eQ x=some n->∃ l B,uL v=some l/\T l=some B/\B.aN V l=some n:=by
  intro l B s off len cap xs hvv hB hc fA h1 h2 qK
  subst hvv
  simp only [den,Option.map_eq_some_iff] at hv
  obtain ⟨⟨b,o⟩,hβ,rfl⟩:=hv
  obtain ⟨g1,g2,g3⟩:=fA b o hβ
  have hlen:ys.length=len:=by rw [qK];simp;omega
  refine ⟨.inr ⟨b,o+off,cap,by rw [hlen],g1,by omega,fun j u hj=>?_⟩,fun n hn=>?_⟩
  .rw [Nat.add_assoc]
   apply g3
   rw [qK] at hj
   simp only [List.map_take,List.map_drop,List.getElem?_take] at hj
   split at hj
   .rwa [List.getElem?_drop] at hj
   .cases hj
  .cases dZ hn
   exact ⟨l,B,rfl,hB,g2⟩
 unfold cW at h
 split at h
 .cases h
  simp only [den,aU] at hv
  subst hv
  exact ⟨.inl ⟨.nil,rfl⟩,fun n hn=>by cases hn⟩
 .rename_i l s off len cap
  split at h
  .rename_i k2 xs ty hB
   split at h
   case h_2=>cases h
   rename_i hk
   have hk:k=k2:=of_decide_eq_true hk
   subst hk
   cases h
   obtain ⟨h1,h2⟩:=ho _ cM
   obtain ⟨cs,hc,b',iE,hh⟩:=hT.ok l _ hB
   cases hc
   refine aG l _ s off len cap xs rfl hB rfl (fun b o hβ=>?_) h1 h2 rfl
   rw [hβ] at iE;cases iE
   exact ⟨(Array.getElem?_eq_some_iff.1 hh).1,by simp [SB.aN,hβ],fun j u hj=>by rw [cell_of_row w _ (0+j) _ _ _ hh];simpa using hj⟩
  .rename_i k2 xs hB
   split at h
   case h_2=>cases h
   rename_i hk
   have hk:k=k2:=of_decide_eq_true hk
   subst hk
   cases h
   obtain ⟨h1,h2⟩:=ho _ cM
   obtain ⟨cs,hc,b',o',iE,cI,hh⟩:=hT.ok l _ hB
   cases hc
   refine aG l _ s off len cap xs rfl hB rfl (fun b o hβ=>?_) h1 h2 rfl
   rw [hβ] at iE;cases iE
   exact ⟨cI.lt,by simp [SB.aN,hβ],hh⟩
  .rename_i cells ty hB
   split at h
   case h_2=>cases h
   rename_i xs hk
   cases h
   obtain ⟨h1,h2⟩:=ho _ cM
   obtain ⟨cs,hc,b',iE,hh⟩:=hT.ok l _ hB
   have e:some cs=some _:=hc.symm.trans (cU hk)
   cases e
   refine aG l _ s off len cap xs rfl hB hc (fun b o hβ=>?_) h1 h2 rfl
   rw [hβ] at iE;cases iE
   exact ⟨(Array.getElem?_eq_some_iff.1 hh).1,by simp [SB.aN,hβ],fun j u hj=>by rw [cell_of_row w _ (0+j) _ _ _ hh];simpa using hj⟩
  .rename_i cells hB
   split at h
   case h_2=>cases h
   rename_i xs hk
   cases h
   obtain ⟨h1,h2⟩:=ho _ cM
   obtain ⟨cs,hc,b',o',iE,cI,hh⟩:=hT.ok l _ hB
   have e:some cs=some _:=hc.symm.trans (cU hk)
   cases e
   refine aG l _ s off len cap xs rfl hB hc (fun b o hβ=>?_) h1 h2 rfl
   rw [hβ] at iE;cases iE
   exact ⟨cI.lt,by simp [SB.aN,hβ],hh⟩
  .cases h
 .rename_i l
  split at h
  case h_2=>cases h
  rename_i k2 xs ty hB
  split at h
  case h_2=>cases h
  rename_i hk
  have hk:k=k2:=of_decide_eq_true hk
  subst hk
  cases h
  obtain ⟨cs,hc,u,hσ,bK⟩:=hT.ok l _ hB
  cases hc
  simp only [den,hσ,aU] at hv
  subst hv
  refine ⟨?_,fun n hn=>⟨l,_,rfl,hB,by simp [SB.aN,hσ,dZ hn]⟩⟩
  rcases bK.1.2 with ⟨rfl,h0⟩ | ⟨gb,cap,cur,rfl,_,hh,hle,_,_,cR⟩
  .exact .inl ⟨.nil,List.eq_nil_of_length_eq_zero h0⟩
  .refine .inr ⟨gb,0,cap,rfl,(Array.getElem?_eq_some_iff.1 hh).1,hle,fun j u hj=>?_⟩
   rw [cell_of_row w gb _ _ _ _ hh]
   rw [<- cR,List.getElem?_take] at hj
   split at hj
   .simpa using hj
   .cases hj
 .rename_i l lo hi
  split at h
  case h_2=>cases h
  rename_i k2 xs ty hB
  split at h
  case h_2=>cases h
  rename_i hk
  have hk:k=k2:=of_decide_eq_true hk
  subst hk
  cases h
  obtain ⟨h1,h2⟩:=ho _ cM
  obtain ⟨cs,hc,u,hσ,bK⟩:=hT.ok l _ hB
  cases hc
  have hlen:((xs.drop lo).take (hi-lo)).length=hi-lo:=by simp;omega
  rcases bK.1.2 with ⟨rfl,h0⟩ | ⟨gb,cap,cur,rfl,_,hh,hle,_,_,cR⟩
  .have:xs=[]:=List.eq_nil_of_length_eq_zero h0
   subst this
   have e0:lo=0/\hi=0:=by simp at h2;omega
   obtain ⟨rfl,rfl⟩:=e0
   simp only [den,hσ,aU] at hv
   subst hv
   exact ⟨.inl ⟨⟨none,by simp⟩,by simp⟩,fun n hn=>by cases dZ hn⟩
  .simp only [den,hσ,aU] at hv
   by_cases pT:cap=lo
   .rw [if_pos pT] at hv
    subst hv
    refine ⟨.inr ⟨gb,0,cap-lo,by rw [hlen],(Array.getElem?_eq_some_iff.1 hh).1,by omega,fun j u hj=>?_⟩,fun n hn=>⟨l,_,rfl,hB,by simpa [SB.aN,hσ,Value.ownBlock] using dZ hn⟩⟩
    have h0:hi-lo=0:=by omega
    rw [h0] at hj
    simp at hj
   .rw [if_neg pT,Option.map_some,bG] at hv
    subst hv
    refine ⟨.inr ⟨gb,0+lo,cap-lo,by rw [hlen],(Array.getElem?_eq_some_iff.1 hh).1,by omega,fun j u hj=>?_⟩,fun n hn=>⟨l,_,rfl,hB,by simpa [SB.aN,hσ,Value.ownBlock] using dZ hn⟩⟩
    rw [cell_of_row w gb _ _ _ _ hh]
    have h5:(xs.map (Value.int k))[lo+j]?=some u:=by
     simp only [List.map_take,List.map_drop,List.getElem?_take] at hj
     split at hj
     .rwa [List.getElem?_drop] at hj
     .cases hj
    rw [<- cR,List.getElem?_take] at h5
    split at h5
    .simpa using h5
    .cases h5
 .rename_i l n0
  split at h
  case h_3=>cases h
  case h_2=>rename_i xs hB;exact absurd hB (hnf l n0 xs rfl)
  rename_i k2 xs hB
  split at h
  case h_2=>cases h
  rename_i hk
  have hk:k=k2:=of_decide_eq_true hk
  subst hk
  cases h
  obtain ⟨cs,hc,u,hσ,bK⟩:=hT.ok l _ hB
  cases hc
  simp only [den,Option.bind_eq_some_iff] at hv
  obtain ⟨u',fU,hv⟩:=hv
  rw [hσ] at fU
  cases fU
  obtain ⟨rfl,_⟩:=cY hv
  refine ⟨?_,fun n hn=>⟨l,_,rfl,hB,by simp [SB.aN,hσ,hn]⟩⟩
  exact bK
 .rename_i l off len lo
  split at h
  case h_2=>cases h
  rename_i sz cells ty hB
  split at h
  case h_2=>cases h
  rename_i xs gJ hk
  cases h
  have gJ:=cH gJ
  subst gJ
  obtain ⟨h1,h2⟩:=ho _ cM
  obtain ⟨cs,hc,b,cap,cur,hβ,hσ,hh,hle,lW,⟨n,hn,RF⟩,cR⟩:=hT.ok l _ hB
  have e:some cs=some _:=hc.symm.trans (cU hk)
  cases e
  simp only [den,hβ,hσ,nP,Option.bind_some,Option.map_some,aU] at hv
  subst hv
  have hlen:((xs.drop off).take len).length=len:=by simp;omega
  simp only [List.length_map,Nat.mul_one] at hn
  refine ⟨.inr ⟨b,0+off,cap-lo,by simp only [Int.toNat_natCast,hlen],(Array.getElem?_eq_some_iff.1 hh).1,by omega,fun j u hj=>?_⟩,fun n hn=>⟨l,_,rfl,hB,by simpa [SB.aN,hβ,Value.ownBlock] using dZ hn⟩⟩
  rw [cell_of_row w b _ _ _ _ hh]
  have h5:(xs.map (Value.int k))[off+j]?=some u:=by
   simp only [List.map_take,List.map_drop,List.getElem?_take] at hj
   split at hj
   .rwa [List.getElem?_drop] at hj
   .cases hj
  rw [<- cR,List.getElem?_take] at h5
  split at h5
  .simpa using h5
  .cases h5
 .exact absurd rfl (dD _ _ _)
 .cases h
theorem vV {k:IntKind} {v:SV} {x:Value} {ob:List Prop} {ys:List Int} (hT:aC w0 M V T w) (hv:den V v=some x) (h:cW T k v=some (ob,ys)) (ho:∀ q∈ob,q) :
 pE w k x ys/\∀ n,eQ x=some n->(∃ l B,uL v=some l/\T l=some B/\B.aN V l=some n)\/(n<w0.heap.size/\¬ M n):=by
 by_cases dD:∃ l i n,v = .wT l i n
 .obtain ⟨l,i,n,rfl⟩:=dD
  have fin:∀ {B:SB} {ds:List (List Int)},T l=some B->uK B=some ds->oI k .u8=true->ys=ds.getD i []->pE w k x ys/\∀ n,eQ x=some n->(∃ l' B,uL (.wT l i n)=some l'/\T l'=some B/\B.aN V l'=some n)\/(n<w0.heap.size/\¬ M n):=by
   intro B ds hB hd hk hy
   have hk:k = .u8:=of_decide_eq_true hk
   subst hk hy
   obtain ⟨_,_,_,_,hf,_⟩:=Qr hT hv hB hd
   exact ⟨hf.1.gG hT.frame.size fun m hm=>hT.frame.block m (hf.2 m hm).1 (hf.2 m hm).2,fun m hm=>.inr (hf.2 m hm)⟩
  simp only [cW] at h
  split at h
  .rename_i ds hB hk
   cases h
   obtain ⟨h1,h2⟩:=fin hB rfl hk rfl
   exact ⟨h1,fun m hm=>.inr ((h2 m hm).resolve_left (fun ⟨_,_,q,_⟩=>by cases q))⟩
  .rename_i ds ty hB hk
   cases h
   obtain ⟨h1,h2⟩:=fin hB rfl hk rfl
   exact ⟨h1,fun m hm=>.inr ((h2 m hm).resolve_left (fun ⟨_,_,q,_⟩=>by cases q))⟩
  .cases h
 .by_cases hnf:∃ l n d,v = .eV l n/\T l=some (.nH d)
  .obtain ⟨l,n,d,rfl,hB⟩:=hnf
   simp only [cW,hB] at h
   split at h
   .rename_i hk
    have hk:k = .u8:=of_decide_eq_true hk
    subst hk
    cases h
    obtain ⟨u,hσ,hf⟩:=hT.sL l _ hB
    simp only [den,hσ,Option.bind_some] at hv
    have e:=(cY hv).1
    subst e
    exact ⟨hf.1.gG hT.frame.size fun m hm=>hT.frame.block m (hf.2 m hm).1 (hf.2 m hm).2,fun m hm=>.inr (hf.2 m hm)⟩
   .cases h
  .obtain ⟨h1,h2⟩:=Zm (fun l i n e=>dD ⟨l,i,n,e⟩) (fun l n d e q=>hnf ⟨l,n,d,e,q⟩) hT hv h ho
   exact ⟨h1,fun n hn=>.inl (h2 n hn)⟩
def xL:SB->Option (List SV)
 | .row sz cs _=>match Nat.beq sz 1 with
   | true=>some cs
   | false=>none
 | .own cs _=>some cs
 | .fP cs=>some cs
 | _=>none
theorem Hk {l:Nat} {B:SB} {cs:List SV} (lS:okB V w l B) (h:xL B=some cs):∃ xs b o,aE V cs=some xs/\V.β l=some (b,o)/\b<w.heap.size/\∀ (j:Nat) (v:Value),xs[j]?=some v->w.cell? ⟨b,o+j,none⟩=some v:=by
 obtain ⟨xs,lV,h2⟩:=lS
 cases B with
 | row sz cells ty=>
   simp only [xL] at h
   split at h
   case h_2=>cases h
   cases h
   obtain ⟨b,cap,cur,hβ,_,hh,_,_,_,cR⟩:=h2
   refine ⟨xs,b,0,lV,hβ,(Array.getElem?_eq_some_iff.1 hh).1,fun j v hj=>?_⟩
   rw [cell_of_row w b (0+j) _ _ _ hh]
   rw [<- cR,List.getElem?_take] at hj
   split at hj
   .simpa using hj
   .cases hj
 | own cells ty=>
   cases h
   obtain ⟨b,hβ,hh⟩:=h2
   refine ⟨xs,b,0,lV,hβ,(Array.getElem?_eq_some_iff.1 hh).1,fun j v hj=>?_⟩
   rw [cell_of_row w b (0+j) _ _ _ hh]
   simpa using hj
 | fP cells=>
   cases h
   obtain ⟨b,o,hβ,cI,hh⟩:=h2
   exact ⟨xs,b,o,lV,hβ,cI.lt,hh⟩
 | _=>cases h
def rdP (T:aZ):List SV->Option (List Prop × List (List Int))
 | []=>some ([],[])
 | v::r=>match cW T .u8 v,rdP T r with
   | some (ob,d),some (ob2,ps)=>some (ob++ob2,d::ps)
   | _,_=>none
theorem Qs (hT:aC w0 M V T w):∀ {cs:List SV} {ob:List Prop} {ps:List (List Int)} {us:List Value},rdP T cs=some (ob,ps)->(∀ q∈ob,q)->aE V cs=some us->us.length=ps.length/\∀ (i:Nat) (u:Value) (d:List Int),us[i]?=some u->ps[i]?=some d->pE w .u8 u d
 | [],ob,ps,us,h,_,hd=>by
   cases h
   simp only [aE,aU] at hd
   subst hd
   exact ⟨rfl,fun i u d hu=>by simp at hu⟩
 | v::r,ob,ps,us,h,ho,hd=>by
   simp only [rdP] at h
   split at h
   case h_2=>cases h
   rename_i o1 d1 o2 p2 h1 h2
   cases h
   simp only [aE,Option.map_eq_some_iff,Option.bind_eq_some_iff] at hd
   obtain ⟨x,hx,ys,hy,rfl⟩:=hd
   obtain ⟨g1,g2⟩:=Qs hT h2 (fun q hq=>ho q (List.mem_append_right _ hq)) hy
   have g3:=(vV hT hx h1 (fun q hq=>ho q (List.mem_append_left _ hq))).1
   refine ⟨by simp [g1],fun i u d hu hd=>?_⟩
   cases i with
   | zero=>simp only [List.getElem?_cons_zero,aU] at hu hd;subst hu hd;exact g3
   | succ i=>exact g2 i u d (by simpa using hu) (by simpa using hd)
theorem pE.frozen {x:Value} {ys:List Int} (h:pE w .u8 x ys):dL w (fun _=>False) x ys:=by
 refine ⟨h,fun n hn=>⟨?_,fun q=>q⟩⟩
 rcases h with ⟨⟨a,rfl⟩,_⟩ | ⟨b,o,c,rfl,cI,_⟩
 .cases hn
 .cases dZ hn;exact cI
def Gk (T:aZ) (vw:Vw):Prop:=∀ l0 v cs,vw l0=some (.Kr v cs)->match v with
 | .aG l _ _ _ _=>∃ B,T l=some B/\xL B=some cs
 | .cP l _ _ _=>∃ pre k ds ty,T l=some (.iS pre k ds ty)/\cs=pre++Ec k 0 ds
 | _=>True
mutual
def kG (vw:Vw) (T0:List (Nat × SB)) (T:aZ):SV->SV->Option (List Prop)
 | .ptr l s o,.ptr l0 s' o'=>match vw l0 with
   | some (.lab l' off)=>match Nat.beq l l' with
     | true=>some (Eb s s' o (off+o'))
     | false=>none
   | _=>none
 | .aG l s o n c,.aG l0 s' o' n' c'=>match vw l0 with
   | some (.lab l' off)=>match Nat.beq l l' with
     | true=>some (Eb s s' o (off+o')++(Eb s s' n n'++Eb s s' c c'))
     | false=>none
   | _=>none
 | .buf l,.buf l0=>match vw l0 with
   | some (.lab l' 0)=>match Nat.beq l l' with
     | true=>some []
     | false=>none
   | _=>none
 | .cP l o n lo,.cP l0 o' n' QV=>match vw l0 with
   | some (.lab l' 0)=>match Nat.beq l l'&&(Nat.beq o o'&&Nat.beq lo QV) with
     | true=>some (Eb false false n n')
     | false=>none
   | _=>none
 | .sP l n,.sP l0 n0=>match vw l0 with
   | some (.lab l' 0)=>match Nat.beq l l' with
     | true=>some (Eb false false n n0)
     | false=>none
   | _=>none
 | .cP l o n lo,.sP l0 n0=>match vw l0,T l with
   | some (.Kr (.cP l' o' n' QV) _),some (.iS pre _ ds _)=>match Nat.beq l l'&&(Nat.beq o 0&&(Nat.beq lo 0&&(Nat.beq o' 0&&Nat.beq QV 0))) with
     | true=>some [n=n0/\n'=n/\n=pre.length+ds.length]
     | false=>none
   | _,_=>none
 | .aG l s o n c,.sP l0 n0=>match vw l0 with
   | some (.Kr (.aG l' s' o' n' c') _)=>match Nat.beq l l' with
     | true=>some (Eb s s' o o'++(Eb s s' n n'++(Eb s s' c c'++[n=n0/\n<=c])))
     | false=>none
   | _=>none
 | v,.eV l0 n0=>match vw l0,look l0 T0 with
   | some (.val u),some (.gQ k _)=>match gF u v,cW T k v with
     | some p,some (ob,xs)=>some (p++(ob++[n0=xs.length]))
     | _,_=>none
   | some (.val u),some (.qI _)=>match gF u v,Fu T v with
     | some p,some xs=>some (p++[n0=xs.length])
     | _,_=>none
   | _,_=>none
 | .sH t v,.sH t' v'=>match Nat.beq t t' with
   | true=>kG vw T0 T v v'
   | false=>none
 | .agg vs,.agg us=>Bj vs us (sV vw T0 T vs us)
 | .eL vs,.eL us=>sV vw T0 T vs us
 | .fn (.func f) xs ys,.fn (.func g) us vs=>match Nat.beq f g with
   | true=>match sV vw T0 T xs us,sV vw T0 T ys vs with
     | some a,some b=>some (a++b)
     | _,_=>none
   | false=>none
 | v,u=>match fD v&&fD u with
   | true=>gF v u
   | false=>none
def sV (vw:Vw) (T0:List (Nat × SB)) (T:aZ):List SV->List SV->Option (List Prop)
 | [],[]=>some []
 | v::r,u::t=>match kG vw T0 T v u,sV vw T0 T r t with
   | some a,some b=>some (a++b)
   | _,_=>none
 | _,_=>none
end
mutual
theorem Wy {vw:Vw} {T0:List (Nat × SB)} (nY:Gk T vw) (hT:aC w0 M V T w):∀ {u v:SV} {ps:List Prop},kG vw T0 T v u=some ps->(∀ q∈ps,q)->∀ x,den V v=some x->den (seen vw V) u=some x
 | .ptr l0 s' o',v,ps,h,hp,x,hx=>by
   cases v <;> simp only [kG,fD,Bool.and_false] at h <;> first | (cases h;done) | skip
   split at h
   .rename_i l' off hl
    split at h
    .rename_i hb
     have hb:=cH hb
     subst hb
     cases h
     have e:=fW hp
     subst e
     simp only [den,Option.map_eq_some_iff] at hx |-
     obtain ⟨p,hp,rfl⟩:=hx
     exact ⟨(p.1,p.2+off),by rw [(jS hl).1,hp];rfl,by simp only [Nat.add_assoc]⟩
    .cases h
   .cases h
 | .aG l0 s' o' n' c',v,ps,h,hp,x,hx=>by
   cases v <;> simp only [kG,fD,Bool.and_false] at h <;> first | (cases h;done) | skip
   split at h
   .rename_i l' off hl
    split at h
    .rename_i hb
     have hb:=cH hb
     subst hb
     cases h
     have e1:=fW (iD hp)
     have e2:=fW (iD (fB hp))
     have e3:=fW (fB (fB hp))
     subst e1 e2 e3
     simp only [den,Option.map_eq_some_iff] at hx |-
     obtain ⟨p,hp,rfl⟩:=hx
     exact ⟨(p.1,p.2+off),by rw [(jS hl).1,hp];rfl,by simp only [Nat.add_assoc]⟩
    .cases h
   .cases h
 | .buf l0,v,ps,h,hp,x,hx=>by
   cases v <;> simp only [kG,fD,Bool.and_false] at h <;> first | (cases h;done) | skip
   split at h
   .rename_i l' hl
    split at h
    .rename_i hb
     have hb:=cH hb
     subst hb
     simp only [den] at hx |-
     rw [(jS hl).2,hx]
    .cases h
   .cases h
 | .cP l0 o' n' QV,v,ps,h,hp,x,hx=>by
   cases v <;> simp only [kG,fD,Bool.and_false] at h <;> first | (cases h;done) | skip
   split at h
   .rename_i l' hl
    split at h
    .rename_i hb
     simp only [Bool.and_eq_true] at hb
     obtain ⟨b1,b2,b3⟩:=hb
     have b1:=cH b1
     have b2:=cH b2
     have b3:=cH b3
     subst b1 b2 b3
     cases h
     have e:=fW hp
     subst e
     simp only [den,Option.map_eq_some_iff,Option.bind_eq_some_iff] at hx |-
     obtain ⟨p,hp,c,hc,rfl⟩:=hx
     refine ⟨p,by rw [(jS hl).1,hp];rfl,c,by rw [(jS hl).2];exact hc,rfl⟩
    .cases h
   .cases h
 | .eV l0 n0,v,ps,h,hp,x,hx=>by
   have key:(match vw l0,look l0 T0 with
    | some (.val u),some (.gQ k _)=>match gF u v,cW T k v with
      | some p,some (ob,xs)=>some (p++(ob++[n0=xs.length]))
      | _,_=>none
    | some (.val u),some (.qI _)=>match gF u v,Fu T v with
      | some p,some xs=>some (p++[n0=xs.length])
      | _,_=>none
    | _,_=>none)=some ps:=by cases v <;> simpa only [kG] using h
   split at key
   case h_3=>cases key
   .rename_i u k ys Xy CZ
    split at key
    case h_2=>cases key
    rename_i p ob xs h1 h2
    cases key
    have hd:den V v=den V u:=jT h1 (iD hp)
    obtain ⟨hr,_⟩:=vV hT hx h2 (iD (fB hp))
    have hn:n0=xs.length:=(fB (fB hp)) _ cM
    simp only [den,Option.bind_eq_some_iff]
    exact ⟨x,by rw [vW Xy,<- hd,hx],by rw [hn];exact hr.eV⟩
   .rename_i u ys Xy CZ
    split at key
    case h_2=>cases key
    rename_i p xs h1 h2
    cases key
    have hd:den V v=den V u:=jT h1 (iD hp)
    obtain ⟨hr,_⟩:=Ct hT hx h2
    have hn:n0=xs.length:=(fB hp) _ cM
    simp only [den,Option.bind_eq_some_iff]
    exact ⟨x,by rw [vW Xy,<- hd,hx],by rw [hn];exact hr.eV⟩
 | .sP l0 n0,v,ps,h,hp,x,hx=>by
   cases v <;> simp only [kG,fD,Bool.and_false] at h <;> first | (cases h;done) | skip
   .split at h
    case h_2=>cases h
    rename_i l s o n c _ l' s' o' n' c' cs Xy
    split at h
    case h_2=>cases h
    rename_i hb
    have hb:=cH hb
    subst hb
    cases h
    have e1:=fW (iD hp)
    have e2:=fW (iD (fB hp))
    have e3:=fW (iD (fB (fB hp)))
    obtain ⟨e4,e5⟩:=(fB (fB (fB hp))) _ cM
    obtain ⟨B,hB,lW⟩:=nY _ _ _ Xy
    subst e1 e2 e3 e4
    obtain ⟨us,_,_,pA,_⟩:=Hk (hT.ok l B hB) lW
    have hσ:(seen vw V).σ l0=some (.tuple (x::us).toArray):=by
     have hd:den V (.aG l s' o n c)=some x:=by simpa only [den] using hx
     simp [seen,Xy,hd,pA]
    simp only [den,Option.map_eq_some_iff] at hx
    obtain ⟨p,_,rfl⟩:=hx
    simp only [den,hσ,Option.bind_some,zA,List.head?_cons]
    unfold iF
    exact if_pos ⟨rfl,e5,.inr rfl⟩
   .split at h
    case h_2=>cases h
    rename_i l o n lo _ _ l' o' n' QV cs pre k ds ty Xy hB
    split at h
    case h_2=>cases h
    rename_i gY
    simp only [Bool.and_eq_true] at gY
    obtain ⟨k1,k2,k3,k4,k5⟩:=gY
    have k1:=cH k1
    have k2:=cH k2
    have k3:=cH k3
    have k4:=cH k4
    have k5:=cH k5
    cases h
    obtain ⟨e1,e2,e3⟩:=hp _ cM
    obtain ⟨DQ,k',ds',ty',hB',e4⟩:=nY _ _ _ Xy
    subst k1
    rw [hB] at hB'
    cases hB'
    subst k2 k3 k4 k5 e1 e2 e4
    obtain ⟨us,pA,b,cap,cur,r1,r2,_,_,_,⟨m,r6,r7⟩,_⟩:=hT.ok l _ hB
    have pA:aE V (pre++Ec k 0 ds)=some us:=pA
    have RC:=bB pA
    have SI:(Ec k 0 ds).length=ds.length:=Dt k 0 ds
    have hσ:(seen vw V).σ l0=some (.tuple (x::us).toArray):=by
     simp [seen,Xy,hx,pA]
    simp only [den,r1,r2,nP,Option.bind_some,Option.map_some,aU] at hx
    subst hx
    simp only [den,hσ,Option.bind_some,zA,List.head?_cons]
    unfold iF
    rw [List.length_append,SI] at RC
    exact if_pos ⟨rfl,by simp only [Int.toNat_natCast];omega,.inr rfl⟩
   .split at h
    .rename_i l' hl
     split at h
     .rename_i hb
      have hb:=cH hb
      subst hb
      cases h
      have e:=fW hp
      subst e
      simp only [den] at hx |-
      rw [(jS hl).2,hx]
     .cases h
    .cases h
 | .wT ..,v,ps,h,hp,x,hx=>by cases v <;> simp [kG,fD] at h
 | .BZ ..,v,ps,h,hp,x,hx=>by cases v <;> simp [kG,fD] at h
 | .sH t' v',v,ps,h,hp,x,hx=>by
   cases v <;> simp only [kG,fD,Bool.and_false] at h <;> first | (cases h;done) | skip
   split at h
   .rename_i hb
    have hb:=cH hb
    subst hb
    simp only [den,Option.map_eq_some_iff] at hx |-
    obtain ⟨y,hy,rfl⟩:=hx
    exact ⟨y,Wy nY hT h hp y hy,rfl⟩
   .cases h
 | .agg us,v,ps,h,hp,x,hx=>by
   have pure:(fD v&&fD (.agg us))=true->gF v (.agg us)=some ps->den (seen vw V) (.agg us)=some x:=by
    intro Eg hr
    simp only [Bool.and_eq_true] at Eg
    rw [mX (V:=seen vw V) (V':=V) Eg.2,jT hr hp,hx]
   cases v with
   | agg vs=>
     simp only [kG] at h
     simp only [den,Option.map_eq_some_iff] at hx |-
     obtain ⟨y,hy,rfl⟩:=hx
     rcases vD h hp with e | e
     .exact ⟨y,(e V (seen vw V)).trans hy,rfl⟩
     .exact ⟨y,pJ nY hT e hp y hy,rfl⟩
   | _=>
     simp only [kG] at h
     split at h
     .rename_i Eg;exact pure Eg h
     .cases h
 | .eL us,v,ps,h,hp,x,hx=>by
   have pure:(fD v&&fD (.eL us))=true->gF v (.eL us)=some ps->den (seen vw V) (.eL us)=some x:=by
    intro Eg hr
    simp only [Bool.and_eq_true] at Eg
    rw [mX (V:=seen vw V) (V':=V) Eg.2,jT hr hp,hx]
   cases v with
   | eL vs=>
     simp only [kG] at h
     simp only [den,Option.map_eq_some_iff] at hx |-
     obtain ⟨y,hy,rfl⟩:=hx
     exact ⟨y,pJ nY hT h hp y hy,rfl⟩
   | _=>
     simp only [kG] at h
     split at h
     .rename_i Eg;exact pure Eg h
     .cases h
 | .fn g us vs,v,ps,h,hp,x,hx=>by
   cases v with
   | fn f xs ys=>
     cases f with
     | func f=>
       cases g with
       | func g=>
         simp only [kG] at h
         split at h
         .rename_i hf
          have hf:=cH hf
          subst hf
          split at h
          .rename_i a b ha hb
           cases h
           simp only [den,Option.bind_eq_some_iff,Option.map_eq_some_iff] at hx |-
           obtain ⟨y,hy,z,hz,rfl⟩:=hx
           exact ⟨y,pJ nY hT ha (iD hp) y hy,z,pJ nY hT hb (fB hp) z hz,rfl⟩
          .cases h
         .cases h
       | _=>simp [kG,fD] at h
     | _=>simp [kG,fD] at h
   | _=>cases g <;> simp [kG,fD] at h
 | .int s k n,v,ps,h,hp,x,hx=>by
   have h2:(match fD v&&fD (.int s k n) with
    | true=>gF v (.int s k n)
    | false=>none)=some ps:=by cases v <;> simpa only [kG] using h
   split at h2
   .rename_i Eg
    simp only [Bool.and_eq_true] at Eg
    rw [mX (V:=seen vw V) (V':=V) Eg.2,jT h2 hp,hx]
   .cases h2
 | .bool s b,v,ps,h,hp,x,hx=>by
   have h2:(match fD v&&fD (.bool s b) with
    | true=>gF v (.bool s b)
    | false=>none)=some ps:=by cases v <;> simpa only [kG] using h
   split at h2
   .rename_i Eg
    simp only [Bool.and_eq_true] at Eg
    rw [mX (V:=seen vw V) (V':=V) Eg.2,jT h2 hp,hx]
   .cases h2
 | .raw y,v,ps,h,hp,x,hx=>by
   have h2:(match fD v&&fD (.raw y) with
    | true=>gF v (.raw y)
    | false=>none)=some ps:=by cases v <;> simpa only [kG] using h
   split at h2
   .rename_i Eg
    simp only [Bool.and_eq_true] at Eg
    rw [mX (V:=seen vw V) (V':=V) Eg.2,jT h2 hp,hx]
   .cases h2
 | .ai k ys,v,ps,h,hp,x,hx=>by
   have h2:(match fD v&&fD (.ai k ys) with
    | true=>gF v (.ai k ys)
    | false=>none)=some ps:=by cases v <;> simpa only [kG] using h
   split at h2
   .rename_i Eg
    simp only [Bool.and_eq_true] at Eg
    rw [mX (V:=seen vw V) (V':=V) Eg.2,jT h2 hp,hx]
   .cases h2
 | .jH ..,v,ps,h,hp,x,hx=>by cases v <;> simp [kG,fD] at h
 | .Ub ..,v,ps,h,hp,x,hx=>by cases v <;> simp [kG,fD] at h
 | .mS ..,v,ps,h,hp,x,hx=>by cases v <;> simp [kG,fD] at h
theorem pJ {vw:Vw} {T0:List (Nat × SB)} (nY:Gk T vw) (hT:aC w0 M V T w):∀ {us vs:List SV} {ps:List Prop},sV vw T0 T vs us=some ps->(∀ q∈ps,q)->∀ xs,aE V vs=some xs->aE (seen vw V) us=some xs
 | [],vs,ps,h,hp,xs,hx=>by
   cases vs with
   | nil=>exact hx
   | cons=>simp [sV] at h
 | u::t,vs,ps,h,hp,xs,hx=>by
   cases vs with
   | nil=>simp [sV] at h
   | cons v r=>
     simp only [sV] at h
     split at h
     .rename_i a b ha hb
      cases h
      simp only [aE,Option.bind_eq_some_iff,Option.map_eq_some_iff] at hx |-
      obtain ⟨y,hy,ys,qK,rfl⟩:=hx
      exact ⟨y,Wy nY hT ha (iD hp) y hy,ys,pJ nY hT hb (fB hp) ys qK,rfl⟩
     .cases h
end
def dO (vw:Vw) (T0:List (Nat × SB)) (T:aZ):SB->SB->Option (List Prop)
 | _,.gone=>some []
 | .own cs t,.own ds t'=>match Nat.beq t t' with
   | true=>Bj cs ds (sV vw T0 T cs ds)
   | false=>none
 | .own cs t,.ints k xs t'=>match cX k cs with
   | some ns=>some [ns=xs/\t=t']
   | none=>none
 | .ints k xs t,.ints k' ys t'=>match oI k k' with
   | true=>some [xs=ys/\t=t']
   | false=>none
 | .ints k xs t,.own ds t'=>match cX k ds with
   | some ns=>some [xs=ns/\t=t']
   | none=>none
 | .own cs _,.fP ds=>Bj cs ds (sV vw T0 T cs ds)
 | .ints k xs _,.fP ds=>(cX k ds).map fun ns=>[xs=ns]
 | .own cs _,.nM k xs=>(cX k cs).map fun ns=>[ns=xs]
 | .ints k xs _,.nM k' ys=>match oI k k' with
   | true=>some [xs=ys]
   | false=>none
 | .row sz cs t,.row CN ds t'=>match Nat.beq sz CN&&Nat.beq t t' with
   | true=>Bj cs ds (sV vw T0 T cs ds)
   | false=>none
 | .fP cs,.fP ds=>Bj cs ds (sV vw T0 T cs ds)
 | .fP cs,.nM k xs=>(cX k cs).map fun ns=>[ns=xs]
 | .nM k xs,.nM k' ys=>match oI k k' with
   | true=>some [xs=ys]
   | false=>none
 | .fT sz n t,.fT CN n' t'=>match Nat.beq sz CN&&Nat.beq t t' with
   | true=>some (Eb false false n n')
   | false=>none
 | .cT k xs t,.cT k' ys t'=>match Nat.beq t t'&&oI k k' with
   | true=>some [xs=ys]
   | false=>none
 | .eM xs t,.eM ys t'=>match Nat.beq t t' with
   | true=>some [xs=ys]
   | false=>none
 | .eJ vs t,.eJ us t'=>match Nat.beq t t' with
   | true=>some [vs=us]
   | false=>none
 | .lU ds,.lU es=>some [ds=es]
 | .fI ds _,.lU es=>some [ds=es]
 | .own cs t,.eJ us t'=>match Nat.beq t t' with
   | true=>some [∀ V:aY,aE V cs=some us]
   | false=>none
 | _,_=>none
theorem MQ {vw:Vw} {T0:List (Nat × SB)} (nY:Gk T vw) (hT:aC w0 M V T w) {l l0:Nat} {B C:SB} {ps:List Prop} (hl:vw l0=some (.lab l 0)) (hB:T l=some B) (h:dO vw T0 T B C=some ps) (hp:∀ q∈ps,q) :
 okB (seen vw V) w l0 C/\(∀ n,C.aN (seen vw V) l0=some n->B.aN V l=some n)/\(C.owned=true->B.owned=true):=by
 have eβ:(seen vw V).β l0=V.β l:=by rw [(jS hl).1];simp
 have eσ:(seen vw V).σ l0=V.σ l:=(jS hl).2
 obtain ⟨cs,hc,h2⟩:=hT.ok l B hB
 have TL:∀ {xs ds:List SV},Bj xs ds (sV vw T0 T xs ds)=some ps->aE V xs=some cs->aE (seen vw V) ds=some cs:=by
  intro xs ds h hx
  rcases vD h hp with e | e
  .exact (e V (seen vw V)).trans hx
  .exact pJ nY hT e hp _ hx
 cases C with
 | gone=>exact ⟨⟨[],rfl,trivial⟩,(fun n hn=>by cases hn),fun h=>by cases h⟩
 | lU ds=>exact ⟨⟨[],rfl,trivial⟩,(fun n hn=>by cases hn),fun h=>by cases h⟩
 | fI ds ty=>cases B <;> simp [dO] at h
 | iS pre k ds ty=>cases B <;> simp [dO] at h
 | nH d=>cases B <;> simp [dO] at h
 | gK ds z=>cases B <;> simp [dO] at h
 | own ds t'=>
   cases B with
   | own es t=>
     simp only [dO] at h
     split at h
     case h_2=>cases h
     rename_i ht
     have ht:=cH ht
     subst ht
     obtain ⟨b,hb,hh⟩:=h2
     exact ⟨⟨cs,TL h hc,b,eβ.trans hb,hh⟩,fun n hn=>by simpa [SB.aN,eβ] using hn,fun _=>rfl⟩
   | ints k xs t=>
     simp only [dO] at h
     split at h
     case h_2=>cases h
     rename_i hk
     cases h
     obtain ⟨e,ht⟩:=hp _ cM
     subst e ht
     cases hc
     obtain ⟨b,hb,hh⟩:=h2
     exact ⟨⟨_,cU hk,b,eβ.trans hb,hh⟩,fun n hn=>by simpa [SB.aN,eβ] using hn,fun _=>rfl⟩
   | _=>simp [dO] at h
 | ints k xs t'=>
   cases B with
   | own es t=>
     simp only [dO] at h
     split at h
     case h_2=>cases h
     rename_i hk
     cases h
     obtain ⟨e,ht⟩:=hp _ cM
     subst e ht
     have e2:some cs=some _:=hc.symm.trans (cU hk)
     cases e2
     obtain ⟨b,hb,hh⟩:=h2
     exact ⟨⟨_,rfl,b,eβ.trans hb,hh⟩,fun n hn=>by simpa [SB.aN,eβ] using hn,fun _=>rfl⟩
   | ints k2 ys t=>
     simp only [dO] at h
     split at h
     case h_2=>cases h
     rename_i ht
     cases h
     obtain ⟨e,h3⟩:=hp _ cM
     have h4:_=_:=of_decide_eq_true ht
     subst e h3 h4
     obtain ⟨b,hb,hh⟩:=h2
     exact ⟨⟨cs,hc,b,eβ.trans hb,hh⟩,fun n hn=>by simpa [SB.aN,eβ] using hn,fun _=>rfl⟩
   | _=>simp [dO] at h
 | fP ds=>
   cases B with
   | own es t=>
     simp only [dO] at h
     obtain ⟨b,hb,hh⟩:=h2
     exact ⟨⟨cs,TL h hc,b,0,eβ.trans hb,.of hh,fun j u hj=>by rw [cell_of_row w _ (0+j) _ _ _ hh];simpa using hj⟩,fun n hn=>by simpa [SB.aN,eβ] using hn,fun h=>by cases h⟩
   | ints k2 ys t=>
     simp only [dO,Option.map_eq_some_iff] at h
     obtain ⟨ns,hk,rfl⟩:=h
     have e:=hp _ cM
     subst e
     cases hc
     obtain ⟨b,hb,hh⟩:=h2
     exact ⟨⟨_,cU hk,b,0,eβ.trans hb,.of hh,fun j u hj=>by rw [cell_of_row w _ (0+j) _ _ _ hh];simpa using hj⟩,fun n hn=>by simpa [SB.aN,eβ] using hn,fun h=>by cases h⟩
   | fP es=>
     simp only [dO] at h
     obtain ⟨b,o,hb,hh⟩:=h2
     exact ⟨⟨cs,TL h hc,b,o,eβ.trans hb,hh⟩,fun n hn=>by simpa [SB.aN,eβ] using hn,fun h=>by cases h⟩
   | _=>simp [dO] at h
 | nM k xs=>
   cases B with
   | own es t=>
     simp only [dO,Option.map_eq_some_iff] at h
     obtain ⟨ns,hk,rfl⟩:=h
     have e:=hp _ cM
     subst e
     have e2:some cs=some _:=hc.symm.trans (cU hk)
     cases e2
     obtain ⟨b,hb,hh⟩:=h2
     exact ⟨⟨_,rfl,b,0,eβ.trans hb,.of hh,fun j u hj=>by rw [cell_of_row w _ (0+j) _ _ _ hh];simpa using hj⟩,fun n hn=>by simpa [SB.aN,eβ] using hn,fun h=>by cases h⟩
   | ints k2 ys t=>
     simp only [dO] at h
     split at h
     case h_2=>cases h
     rename_i ht
     cases h
     have e:=hp _ cM
     have h4:_=_:=of_decide_eq_true ht
     subst e h4
     cases hc
     obtain ⟨b,hb,hh⟩:=h2
     exact ⟨⟨_,rfl,b,0,eβ.trans hb,.of hh,fun j u hj=>by rw [cell_of_row w _ (0+j) _ _ _ hh];simpa using hj⟩,fun n hn=>by simpa [SB.aN,eβ] using hn,fun h=>by cases h⟩
   | fP es=>
     simp only [dO,Option.map_eq_some_iff] at h
     obtain ⟨ns,hk,rfl⟩:=h
     have e:=hp _ cM
     subst e
     have e2:some cs=some _:=hc.symm.trans (cU hk)
     cases e2
     obtain ⟨b,o,hb,hh⟩:=h2
     exact ⟨⟨_,rfl,b,o,eβ.trans hb,hh⟩,fun n hn=>by simpa [SB.aN,eβ] using hn,fun h=>by cases h⟩
   | nM k2 ys=>
     simp only [dO] at h
     split at h
     case h_2=>cases h
     rename_i ht
     cases h
     have e:=hp _ cM
     have h4:_=_:=of_decide_eq_true ht
     subst e h4
     obtain ⟨b,o,hb,hh⟩:=h2
     exact ⟨⟨cs,hc,b,o,eβ.trans hb,hh⟩,fun n hn=>by simpa [SB.aN,eβ] using hn,fun h=>by cases h⟩
   | _=>simp [dO] at h
 | fT z m t'=>
   cases B with
   | fT z2 m2 t=>
     simp only [dO] at h
     split at h
     case h_2=>cases h
     rename_i ht
     simp only [Bool.and_eq_true] at ht
     cases h
     have h3:=cH ht.1
     have h4:=cH ht.2
     have e:=fW hp
     subst h3 h4 e
     obtain ⟨v,us,hv,hh⟩:=h2
     exact ⟨⟨cs,hc,v,us,eσ.trans hv,hh⟩,fun n hn=>by simpa [SB.aN,eσ] using hn,fun _=>rfl⟩
   | _=>simp [dO] at h
 | cT k xs t'=>
   cases B with
   | cT k2 ys t=>
     simp only [dO] at h
     split at h
     case h_2=>cases h
     rename_i ht
     simp only [Bool.and_eq_true] at ht
     cases h
     have e:=hp _ cM
     have h3:=cH ht.1
     have h4:_=_:=of_decide_eq_true ht.2
     subst e h3 h4
     obtain ⟨v,hv,hh⟩:=h2
     exact ⟨⟨cs,hc,v,eσ.trans hv,hh⟩,fun n hn=>by simpa [SB.aN,eσ] using hn,fun _=>rfl⟩
   | _=>simp [dO] at h
 | eM xs t'=>
   cases B with
   | eM ys t=>
     simp only [dO] at h
     split at h
     case h_2=>cases h
     rename_i ht
     cases h
     have e:=hp _ cM
     have h3:=cH ht
     subst e h3
     obtain ⟨v,hv,hh⟩:=h2
     exact ⟨⟨cs,hc,v,eσ.trans hv,hh⟩,fun n hn=>by simpa [SB.aN,eσ] using hn,fun _=>rfl⟩
   | _=>simp [dO] at h
 | eJ us t'=>
   cases B with
   | own es t=>
     simp only [dO] at h
     split at h
     case h_2=>cases h
     rename_i ht
     cases h
     have e:=hp _ cM
     have h3:=cH ht
     subst h3
     have:some cs=some us:=hc.symm.trans (e V)
     cases this
     obtain ⟨b,hb,hh⟩:=h2
     exact ⟨⟨_,rfl,b,eβ.trans hb,hh⟩,fun n hn=>by simpa [SB.aN,eβ] using hn,fun _=>rfl⟩
   | eJ vs t=>
     simp only [dO] at h
     split at h
     case h_2=>cases h
     rename_i ht
     cases h
     have e:=hp _ cM
     have h3:=cH ht
     subst e h3
     obtain ⟨b,hb,hh⟩:=h2
     exact ⟨⟨cs,hc,b,eβ.trans hb,hh⟩,fun n hn=>by simpa [SB.aN,eβ] using hn,fun _=>rfl⟩
   | _=>simp [dO] at h
 | row z ds t'=>
   cases B with
   | row z2 es t=>
     simp only [dO] at h
     split at h
     case h_2=>cases h
     rename_i ht
     simp only [Bool.and_eq_true] at ht
     have h3:=cH ht.1
     have h4:=cH ht.2
     subst h3 h4
     obtain ⟨b,cap,cur,hb,hσ,hh⟩:=h2
     exact ⟨⟨cs,TL h hc,b,cap,cur,eβ.trans hb,eσ.trans hσ,hh⟩,fun n hn=>by simpa [SB.aN,eβ] using hn,fun _=>rfl⟩
   | _=>simp [dO] at h
 | gQ k xs=>cases B <;> simp [dO] at h
 | qI xs=>cases B <;> simp [dO] at h
def JO:SB->Bool
 | .fI _ _=>true
 | _=>false
def okO (vw:Vw) (T0:List (Nat × SB)) (eO:List Nat):Bool:=T0.all fun p=>match p.2.owned with
 | false=>true
 | true=>match vw p.1 with
   | some (.lab l _) => !eO.elem l
   | _=>true
theorem aJt {vw:Vw} {T0:List (Nat × SB)} {eO:List Nat} (h:okO vw T0 eO=true) {l0 l:Nat} {B0:SB} (h0:look l0 T0=some B0) (ho:B0.owned=true) (hl:vw l0=some (.lab l 0)):l ∉ eO:=by
 have:=List.all_eq_true.1 h _ (fY h0)
 simp only [ho,hl] at this
 simpa using this
theorem Jg (hT:aC w0 M V T w):∀ {cs:List SV} {ob:List Prop} {ps:List (List Int)} {us:List Value},rdP T cs=some (ob,ps)->(∀ q∈ob,q)->aE V cs=some us->∀ (i:Nat) (u:Value),us[i]?=some u->∀ n,eQ u=some n->(∃ l1 B1,l1∈cs.filterMap uL/\T l1=some B1/\B1.aN V l1=some n)\/(n<w0.heap.size/\¬ M n)
 | [],ob,ps,us,h,_,hd=>by
   simp only [aE,aU] at hd
   subst hd
   intro i u hu
   simp at hu
 | v::r,ob,ps,us,h,ho,hd=>by
   simp only [rdP] at h
   split at h
   case h_2=>cases h
   rename_i o1 d1 o2 p2 h1 h2
   cases h
   simp only [aE,Option.map_eq_some_iff,Option.bind_eq_some_iff] at hd
   obtain ⟨x,hx,ys,hy,rfl⟩:=hd
   have g1:=Jg hT h2 (fun q hq=>ho q (List.mem_append_right _ hq)) hy
   have g3:=(vV hT hx h1 (fun q hq=>ho q (List.mem_append_left _ hq))).2
   intro i u hu n hn
   cases i with
   | zero=>
     simp only [List.getElem?_cons_zero,aU] at hu
     subst hu
     rcases g3 n hn with ⟨l,B,e1,e2,e3⟩ | e
     .exact .inl ⟨l,B,List.mem_filterMap.2 ⟨v,cM,e1⟩,e2,e3⟩
     .exact .inr e
   | succ i=>
     rcases g1 i u (by simpa using hu) n hn with ⟨l,B,e1,e2,e3⟩ | e
     .obtain ⟨v',Ov,e4⟩:=List.mem_filterMap.1 e1
      exact .inl ⟨l,B,List.mem_filterMap.2 ⟨v',List.mem_cons_of_mem _ Ov,e4⟩,e2,e3⟩
     .exact .inr e
def Eu (vw:Vw) (T0:List (Nat × SB)) (T:aZ) (l0:Nat) (B0:SB):Option (List Prop):=match B0 with
 | .lU ds=>match vw l0 with
   | some (.lab l 0)=>match T l with
     | some B=>match !JO B||okO vw T0 [l] with
       | true=>dO vw T0 T B (.lU ds)
       | false=>none
     | none=>none
   | some (.Kr (.cP l 0 n 0) _)=>match T l with
     | some (.iS pre k es _)=>match rdP T pre,T k,okO vw T0 (l::pre.filterMap uL) with
       | some (ob,ps),some B,true=>match uK B with
         | some RL=>some ((n=pre.length+es.length/\RL=es/\ps++es=ds)::ob)
         | none=>none
       | _,_,_=>none
     | _=>none
   | some (.Kr (.aG l true 0 n c) cs)=>match rdP T cs,Nat.beq cs.length n&&Nat.ble n c,okO vw T0 (l::cs.filterMap uL) with
     | some (ob,ps),true,true=>some ((ps=ds)::ob)
     | _,_,_=>none
   | _=>none
 | .gQ k ys=>match vw l0 with
   | some (.val u)=>match cW T k u with
     | some (ob,xs)=>some ((xs=ys)::ob)
     | none=>none
   | _=>none
 | .qI ys=>match vw l0 with
   | some (.val u)=>match Fu T u with
     | some xs=>some [xs=ys]
     | none=>none
   | _=>none
 | B0=>match vw l0 with
   | some (.lab l 0)=>match T l with
     | some B=>dO vw T0 T B B0
     | none=>none
   | _=>none
def oB (vw:Vw) (l0:Nat):Option Nat:=match vw l0 with
 | some (.lab l _)=>some l
 | some (.val u)=>uL u
 | some (.Kr ..)=>none
 | none=>none
theorem aBo {vw:Vw} {T0:List (Nat × SB)} (nY:Gk T vw) (hT:aC w0 M V T w) {l0:Nat} {C:SB} {ps:List Prop} (h:Eu vw T0 T l0 C=some ps) (hp:∀ q∈ps,q) (hv:∀ u,vw l0=some (.val u)->∃ x,den V u=some x) :
 okB (seen vw V) w l0 C/\(∀ n,C.aN (seen vw V) l0=some n->(∃ l B,oB vw l0=some l/\T l=some B/\B.aN V l=some n)\/(n<w0.heap.size/\¬ M n))/\(C.owned=true->∃ l B,vw l0=some (.lab l 0)/\T l=some B/\B.owned=true/\∀ n,C.aN (seen vw V) l0=some n->B.aN V l=some n):=by
 have rest:(match vw l0 with
  | some (.lab l 0)=>match T l with
    | some B=>dO vw T0 T B C
    | none=>none
  | _=>none)=some ps->okB (seen vw V) w l0 C/\(∀ n,C.aN (seen vw V) l0=some n->(∃ l B,oB vw l0=some l/\T l=some B/\B.aN V l=some n)\/(n<w0.heap.size/\¬ M n))/\(C.owned=true->∃ l B,vw l0=some (.lab l 0)/\T l=some B/\B.owned=true/\∀ n,C.aN (seen vw V) l0=some n->B.aN V l=some n):=by
  intro h
  split at h
  case h_2=>cases h
  rename_i l hl
  split at h
  case h_2=>cases h
  rename_i B hB
  obtain ⟨r1,r2,r3⟩:=MQ nY hT hl hB h hp
  exact ⟨r1,fun n hn=>.inl ⟨l,B,by simp [oB,hl],hB,r2 n hn⟩,fun ho=>⟨l,B,hl,hB,r3 ho,r2⟩⟩
 cases C with
 | gQ k ys=>
   simp only [Eu] at h
   split at h
   case h_2=>cases h
   rename_i u hu
   split at h
   case h_2=>cases h
   rename_i ob xs hs
   cases h
   have e:xs=ys:=hp _ cM
   subst e
   obtain ⟨x,hx⟩:=hv u hu
   obtain ⟨h1,h2⟩:=vV hT hx hs (fun q hq=>hp q (List.mem_cons_of_mem _ hq))
   have hσ:(seen vw V).σ l0=some x:=(vW hu).trans hx
   refine ⟨⟨_,rfl,x,hσ,h1⟩,fun n hn=>?_,fun h=>by cases h⟩
   simp only [SB.aN,hσ,Option.bind_some] at hn
   rcases h2 n hn with ⟨l,B,g1,g2,g3⟩ | g
   .exact .inl ⟨l,B,by simp [oB,hu,g1],g2,g3⟩
   .exact .inr g
 | qI ys=>
   simp only [Eu] at h
   split at h
   case h_2=>cases h
   rename_i u hu
   split at h
   case h_2=>cases h
   rename_i xs hs
   cases h
   have e:xs=ys:=hp _ cM
   subst e
   obtain ⟨x,hx⟩:=hv u hu
   obtain ⟨h1,h2⟩:=Ct hT hx hs
   have hσ:(seen vw V).σ l0=some x:=(vW hu).trans hx
   refine ⟨⟨_,rfl,x,hσ,h1⟩,fun n hn=>?_,fun h=>by cases h⟩
   simp only [SB.aN,hσ,Option.bind_some] at hn
   obtain ⟨l,B,g1,g2,g3⟩:=h2 n hn
   exact .inl ⟨l,B,by simp [oB,hu,g1],g2,g3⟩
 | eM=>exact rest h
 | lU ds=>exact ⟨⟨[],rfl,trivial⟩,(fun n hn=>by cases hn),fun h=>by cases h⟩
 | nH=>exact rest h
 | gK=>exact rest h
 | fI=>exact rest h
 | iS=>exact rest h
 | own=>exact rest h
 | ints=>exact rest h
 | fP=>exact rest h
 | nM=>exact rest h
 | cT=>exact rest h
 | fT=>exact rest h
 | row=>exact rest h
 | eJ=>exact rest h
 | gone=>exact rest h
theorem Hd {l l0:Nat} {ds:List (List Int)} {V':aY} {M':Nat->Prop} (hT:aC w0 M V T w) (hσ:V'.σ l0=V.σ l) (hk:∀ n,M' n->w0.heap.size<=n\/M n) (h:T l=some (.lU ds)\/(∃ ty,T l=some (.fI ds ty))/\∀ B n,T l=some B->B.aN V l=some n->¬ M' n):kR w M' V' l0 (.lU ds):=by
 rcases h with hB | ⟨⟨ty,hB⟩,hM⟩
 .obtain ⟨v,us,h1,h2,h3,h4⟩:=hT.sL l _ hB
  exact ⟨v,us,hσ.trans h1,h2.gG hT.frame hk,h3,fun i u d hu hd=>(h4 i u d hu hd).gG hT.frame hk⟩
 .obtain ⟨v,us,h1,h3,h4⟩:=hT.sL l _ hB
  obtain ⟨cs,_,v',us',Ei,bK⟩:=hT.ok l _ hB
  rw [h1] at Ei
  have e:=congrArg (fun o:Option Value=>match o with | some (.tuple xs)=>xs.toList | _=>[]) Ei
  simp only at e
  cases e
  have hL:=Dp bK
  exact ⟨v,us,hσ.trans h1,⟨hL.1,fun n hn=>⟨(hL.2 n hn).1,hM _ n hB (by simp [SB.aN,h1,sZ,dZ hn])⟩⟩,h3,fun i u d hu hd=>(h4 i u d hu hd).gG hT.frame hk⟩
theorem MP {vw:Vw} {T0:List (Nat × SB)} (nY:Gk T vw) (hT:aC w0 M V T w) {l0:Nat} {C:SB} {ps:List Prop} (h:Eu vw T0 T l0 C=some ps) (hp:∀ q∈ps,q) {M':Nat->Prop}
 (hM:∀ n,M' n->∃ l0 B0 l B,look l0 T0=some B0/\B0.owned=true/\vw l0=some (.lab l 0)/\T l=some B/\B.owned=true/\B.aN V l=some n):kR w M' (seen vw V) l0 C:=by
 have hk:∀ n,M' n->w0.heap.size<=n\/M n:=fun n hn=>by
  obtain ⟨_,_,l1,B1,_,_,_,a1,a2,a3⟩:=hM n hn
  exact hT.perm l1 B1 n a1 a2 a3
 have EJ:∀ {eO:List Nat},okO vw T0 eO=true->∀ l1 B1 n,l1∈eO->T l1=some B1->B1.aN V l1=some n->¬ M' n:=fun Ea l1 B1 n CE h1 h2 hn=>by
  obtain ⟨_,_,l,B,a1,a2,a3,a4,a5,a6⟩:=hM n hn
  have dD:l≠l1:=fun e=>by subst e;exact aJt Ea a1 a2 a3 CE
  exact hT.jN l B l1 B1 n dD a4 h1 a5 a6 h2
 have far:∀ n,n<w0.heap.size/\¬ M n->¬ M' n:=fun n hn h=>by
  rcases hk n h with h1 | h1
  .omega
  .exact hn.2 h1
 cases C with
 | lU ds=>
   simp only [Eu] at h
   split at h
   case h_4=>cases h
   .rename_i l hl
    split at h
    case h_2=>cases h
    rename_i B hB
    split at h
    case h_2=>cases h
    rename_i Ea
    have hσ:(seen vw V).σ l0=V.σ l:=(jS hl).2
    cases B with
    | lU es=>
      simp only [dO,aU] at h
      subst h
      have e:=hp _ cM
      subst e
      exact Hd hT hσ hk (.inl hB)
    | fI es ty=>
      simp only [dO,aU] at h
      subst h
      have e:=hp _ cM
      subst e
      have Ea:okO vw T0 [l]=true:=by simpa [JO] using Ea
      exact Hd hT hσ hk (.inr ⟨⟨ty,hB⟩,fun B n h1 h2=>EJ Ea l B n (by simp) h1 h2⟩)
    | _=>simp [dO] at h
   .rename_i l n cs hl
    split at h
    case h_2=>cases h
    rename_i pre k es ty hB
    split at h
    case h_2=>cases h
    rename_i ob ps B hrd hBk Ea
    split at h
    case h_2=>cases h
    rename_i RL hd
    cases h
    obtain ⟨e2,e3,e4⟩:=hp _ cM
    obtain ⟨DQ,k',ds',ty',hB',e1⟩:=nY _ _ _ hl
    rw [hB] at hB'
    cases hB'
    subst e1 e3 e4
    obtain ⟨us,pA,b,cap,cur,r1,r2,hh,_,_,⟨m,r6,r7⟩,cR⟩:=hT.ok l _ hB
    have pA:aE V (pre++Ec k 0 RL)=some us:=pA
    obtain ⟨xs,ys,hx,hy,rfl⟩:=pQ pA
    obtain ⟨g1,g2⟩:=Qs hT hrd (fun q hq=>hp q (List.mem_cons_of_mem _ hq)) hx
    obtain ⟨lv,ws,hσ,sJ,Ap,_⟩:=Ab hT hBk hd
    have hws:=Dh (i:=0) hσ sJ (fun j u d hu hd=>(Ap j u d hu hd).1.eV) (List.drop_zero)
    rw [hws] at hy
    cases hy
    have Fp:=bB hx
    have hdn:den V (.cP l 0 n 0)=some (.slice (some ⟨b,0,none⟩) n cap):=by simp [den,r1,r2,nP]
    have hn:n=(xs++ys).length:=by rw [e2,List.length_append];omega
    refine ⟨.slice (some ⟨b,0,none⟩) n cap,xs++ys,by simp [seen,hl,hdn,pA],⟨.inr ⟨b,0,cap,by rw [hn],(Array.getElem?_eq_some_iff.1 hh).1,by omega,fun j v hj=>?_⟩,fun q hq=>?_⟩,by simp [g1,sJ],fun i u d hu hd=>?_⟩
    .rw [cell_of_row w b (0+j) _ _ _ hh]
     rw [<- cR,List.getElem?_take] at hj
     split at hj
     .simpa using hj
     .cases hj
    .have:q=b:=by
      unfold eQ at hq
      split at hq
      .cases hq
      .simpa [Value.ownBlock] using hq.symm
     subst this
     exact ⟨(Array.getElem?_eq_some_iff.1 hh).1,EJ Ea l _ _ cM hB (by simp [SB.aN,r1])⟩
    .by_cases hi:i<xs.length
     .rw [List.getElem?_append_left hi] at hu
      rw [List.getElem?_append_left (by omega)] at hd
      refine ⟨g2 i u d hu hd,fun q hq=>⟨((g2 i u d hu hd).frozen.2 q hq).1,?_⟩⟩
      rcases Jg hT hrd (fun q hq=>hp q (List.mem_cons_of_mem _ hq)) hx i u hu q hq with ⟨l1,B1,e1,e2,e3⟩ | e
      .exact EJ Ea l1 B1 q (List.mem_cons_of_mem _ e1) e2 e3
      .exact far q e
     .rw [List.getElem?_append_right (by omega)] at hu
      rw [List.getElem?_append_right (by omega),<- g1] at hd
      exact (Ap _ u d hu hd).gG hT.frame hk
   .rename_i l n c cs hl
    split at h
    case h_2=>cases h
    rename_i ob ps hrd gY Ea
    cases h
    simp only [Bool.and_eq_true] at gY
    have e2:=cH gY.1
    have e3:=Nat.le_of_ble_eq_true gY.2
    have e4:=hp _ cM
    obtain ⟨B,hB,lW⟩:=nY _ _ _ hl
    subst e4
    obtain ⟨us,b,o,pA,hβ,cI,fE⟩:=Hk (hT.ok l B hB) lW
    obtain ⟨g1,g2⟩:=Qs hT hrd (fun q hq=>hp q (List.mem_cons_of_mem _ hq)) pA
    have RC:us.length=n:=(bB pA).trans e2
    have hd:den V (.aG l true 0 n c)=some (.slice (some ⟨b,o+0,none⟩) n c):=by simp [den,hβ]
    refine ⟨.slice (some ⟨b,o+0,none⟩) n c,us,by simp [seen,hl,hd,pA],⟨.inr ⟨b,o+0,c,by rw [RC],cI,by omega,fE⟩,fun m hm=>?_⟩,g1,fun i u d hu hd=>⟨(g2 i u d hu hd),fun m hm=>⟨((g2 i u d hu hd).frozen.2 m hm).1,?_⟩⟩⟩
    rotate_left
    .rcases Jg hT hrd (fun q hq=>hp q (List.mem_cons_of_mem _ hq)) pA i u hu m hm with ⟨l1,B1,e1,e2,e3⟩ | e
     .exact EJ Ea l1 B1 m (List.mem_cons_of_mem _ e1) e2 e3
     .exact far m e
    have:m=b:=by
     unfold eQ at hm
     split at hm
     .cases hm
     .simpa [Value.ownBlock] using hm.symm
    subst this
    refine ⟨cI,EJ Ea l _ _ cM hB ?_⟩
    cases B <;> simp only [xL] at lW <;> first | (cases lW;done) | simp [SB.aN,hβ]
 | fI ds ty=>
   simp only [Eu] at h
   split at h
   case h_2=>cases h
   split at h
   case h_2=>cases h
   rename_i B _
   cases B <;> simp [dO] at h
 | nH d=>
   simp only [Eu] at h
   split at h
   case h_2=>cases h
   split at h
   case h_2=>cases h
   rename_i B _
   cases B <;> simp [dO] at h
 | gK ds z=>
   simp only [Eu] at h
   split at h
   case h_2=>cases h
   split at h
   case h_2=>cases h
   rename_i B _
   cases B <;> simp [dO] at h
 | _=>trivial
def UQ (vw:Vw) (T0:List (Nat × SB)) (T:aZ):List (Nat × SB)->Option (List Prop)
 | []=>some []
 | (l0,B0)::r=>match Eu vw T0 T l0 B0,UQ vw T0 T r with
   | some a,some b=>some (a++b)
   | _,_=>none
theorem Jk {vw:Vw} {T0:List (Nat × SB)}:∀ {r:List (Nat × SB)} {ps:List Prop},UQ vw T0 T r=some ps->(∀ q∈ps,q)->∀ l0 B0,look l0 r=some B0->∃ CQ,Eu vw T0 T l0 B0=some CQ/\∀ q∈CQ,q
 | [],_,_,_,l0,B0,hl=>by cases hl
 | (k,C)::r,ps,h,hp,l0,B0,hl=>by
   simp only [UQ] at h
   split at h
   case h_2=>cases h
   rename_i a b ha hb
   cases h
   by_cases e:k=l0
   .subst e;rw [aI] at hl;cases hl;exact ⟨a,ha,iD hp⟩
   .rw [aD e] at hl;exact Jk hb (fB hp) l0 B0 hl
def aFq:Option Nat->Option Nat->Bool
 | some a,some b=>Nat.beq a b
 | _,_=>false
def aNc (vw:Vw) (T0:List (Nat × SB)):Bool:=T0.all fun p=>match p.2.owned with
 | false=>true
 | true=>T0.all fun q=>Nat.beq p.1 q.1 || !aFq (oB vw p.1) (oB vw q.1)
inductive Ij where
 | lab (l off:Nat)
 | arg (i:Nat)
 | sub (i j:Nat)
 | cell (l i:Nat)
 | Kr (i:Nat)
def Ft (vs:List SV) (T:aZ):Ij->Option Src
 | .Kr i=>match vs[i]? with
   | some (.sP l _)=>some (.lab l 0)
   | some (.cP l o n lo)=>match T l with
     | some (.iS pre k ds _)=>some (.Kr (.cP l o n lo) (pre++Ec k 0 ds))
     | _=>none
   | some (.aG l s o n c)=>match T l with
     | some B=>(xL B).map (.Kr (.aG l s o n c))
     | none=>none
   | _=>none
 | .cell l i=>match T l with
   | some (.own cs _)=>(cs[i]?).map .val
   | some (.fP cs)=>(cs[i]?).map .val
   | some (.row _ cs _)=>(cs[i]?).map .val
   | _=>none
 | .lab l off=>some (.lab l off)
 | .arg i=>(vs[i]?).map .val
 | .sub i j=>match vs[i]? with
   | some (.agg us)=>(us[j]?).map .val
   | _=>none
def Ax (vs:List SV) (T:aZ):List (Nat × Ij)->Option (List (Nat × Src))
 | []=>some []
 | (l0,q)::r=>match Ft vs T q,Ax vs T r with
   | some s,some t=>some ((l0,s)::t)
   | _,_=>none
theorem Mv (hT:aC w0 M V T w) {vs:List SV} {xs:List Value} (hx:aE V vs=some xs):∀ {vl:List (Nat × Ij)} {sl:List (Nat × Src)},Ax vs T vl=some sl->∀ l0 u,look l0 sl=some (.val u)->∃ x,den V u=some x
 | [],sl,h,l0,u,hl=>by simp only [Ax,aU] at h;subst h;cases hl
 | (k,q)::r,sl,h,l0,u,hl=>by
   simp only [Ax] at h
   split at h
   case h_2=>cases h
   rename_i s t hs ht
   cases h
   by_cases e:k=l0
   .subst e
    rw [aI] at hl
    cases hl
    cases q with
    | lab l off=>cases hs
    | Kr i=>
      simp only [Ft] at hs
      split at hs
      .cases hs
      .split at hs
       .cases hs
       .cases hs
      .split at hs
       .simp at hs
       .cases hs
      .cases hs
    | cell l i=>
      simp only [Ft] at hs
      split at hs
      .rename_i cs ty hB
       simp only [Option.map_eq_some_iff] at hs
       obtain ⟨v,hv,e⟩:=hs
       cases e
       obtain ⟨ys,hy,_⟩:=hT.ok l _ hB
       obtain ⟨x,_,h3⟩:=dX hy i u hv
       exact ⟨x,h3⟩
      .rename_i cs hB
       simp only [Option.map_eq_some_iff] at hs
       obtain ⟨v,hv,e⟩:=hs
       cases e
       obtain ⟨ys,hy,_⟩:=hT.ok l _ hB
       obtain ⟨x,_,h3⟩:=dX hy i u hv
       exact ⟨x,h3⟩
      .rename_i sz cs ty hB
       simp only [Option.map_eq_some_iff] at hs
       obtain ⟨v,hv,e⟩:=hs
       cases e
       obtain ⟨ys,hy,_⟩:=hT.ok l _ hB
       obtain ⟨x,_,h3⟩:=dX hy i u hv
       exact ⟨x,h3⟩
      .cases hs
    | arg i=>
      simp only [Ft,Option.map_eq_some_iff] at hs
      obtain ⟨v,hv,e⟩:=hs
      cases e
      obtain ⟨x,_,h2⟩:=dX hx i u hv
      exact ⟨x,h2⟩
    | sub i j=>
      simp only [Ft] at hs
      split at hs
      case h_2=>cases hs
      rename_i us hv
      simp only [Option.map_eq_some_iff] at hs
      obtain ⟨v,hv2,e⟩:=hs
      cases e
      obtain ⟨x,_,h2⟩:=dX hx i _ hv
      simp only [den,Option.map_eq_some_iff] at h2
      obtain ⟨ys,hy,_⟩:=h2
      obtain ⟨x,_,h3⟩:=dX hy j u hv2
      exact ⟨x,h3⟩
   .rw [aD e] at hl
    exact Mv hT hx ht l0 u hl
theorem Mu {vs:List SV} {T:aZ}:∀ {vl:List (Nat × Ij)} {sl:List (Nat × Src)},Ax vs T vl=some sl->∀ l0 v cs,look l0 sl=some (.Kr v cs)->match v with
  | .aG l _ _ _ _=>∃ B,T l=some B/\xL B=some cs
  | .cP l _ _ _=>∃ pre k ds ty,T l=some (.iS pre k ds ty)/\cs=pre++Ec k 0 ds
  | _=>True
 | [],sl,h,l0,v,cs,hl=>by simp only [Ax,aU] at h;subst h;cases hl
 | (k,q)::r,sl,h,l0,v,cs,hl=>by
   simp only [Ax] at h
   split at h
   case h_2=>cases h
   rename_i s t hs ht
   cases h
   by_cases e:k=l0
   .subst e
    rw [aI] at hl
    cases hl
    cases q <;> simp only [Ft] at hs
    .cases hs
    .simp at hs
    .split at hs
     .simp at hs
     .cases hs
    .split at hs <;> first | (cases hs;done) | (simp at hs;done)
    .split at hs
     .cases hs
     .split at hs
      .rename_i hB
       cases hs
       exact ⟨_,_,_,_,hB,rfl⟩
      .cases hs
     .split at hs
      .rename_i B hB
       simp only [Option.map_eq_some_iff] at hs
       obtain ⟨cs',h1,h2⟩:=hs
       cases h2
       exact ⟨B,hB,h1⟩
      .cases hs
     .cases hs
   .rw [aD e] at hl
    exact Mu ht l0 v cs hl
structure Canon where
 eR:List SV
 T0:List (Nat × SB)
 vl:List (Nat × Ij)
 e0:bJ
 conds:List Prop:=[]
def pB (gl:List (Nat × Nat)) (sl:List (Nat × Src)):Vw:=fun l0=>match look l0 sl with
 | some q=>some q
 | none=>match gl.any fun p=>Nat.beq p.2 l0 with
   | true=>some (.lab l0 0)
   | false=>none
def Xl (gl:List (Nat × Nat)) (F0:Nat) (c:Canon) (vw:Vw):Bool:=
 aNc vw c.T0&&(c.vl.all (fun p=>Nat.blt p.1 F0 && !gl.any fun q=>Nat.beq q.2 p.1)&&(gl.all (fun q=>Nat.blt q.2 F0) &&
  (c.T0.all (fun p=>match p.2.owned with
   | false=>true
   | true=>Nat.blt p.1 F0&&aDs (look p.1 c.e0.wr))&&(Nat.ble c.e0.new.length 8&&c.e0.wr.all fun p=>Nat.blt p.1 F0))))
def aK (gl:List (Nat × Nat)) (F0:Nat) (dec:List SV->aZ->Option Canon):Sum:=fun vs T lab _=>
 match dec vs T with
 | none=>none
 | some c=>match Ax vs T c.vl with
   | none=>none
   | some sl=>match sV (pB gl sl) c.T0 T vs c.eR,UQ (pB gl sl) c.T0 T c.T0,Vi (uD (pB gl sl) F0 lab) c.e0,Xl gl F0 c (pB gl sl) with
     | some p,some q,some e,true=>some { bM:=c.conds++(p++q),val:=e.val,new:=e.new,wr:=e.wr }
     | _,_,_,_=>none
theorem wB {α:Type} {f:Nat × α->Bool} {l:Nat} {v:α} {r:List (Nat × α)} (h:r.all f=true) (hl:look l r=some v):f (l,v)=true:=List.all_eq_true.1 h _ (fY hl)
theorem Cy {vs:List SV} {T:aZ}:∀ {vl:List (Nat × Ij)} {sl:List (Nat × Src)},Ax vs T vl=some sl->∀ l0 s,look l0 sl=some s->∃ q,(l0,q)∈vl
 | [],sl,h,l0,s,hl=>by simp only [Ax,aU] at h;subst h;cases hl
 | (k,q)::r,sl,h,l0,s,hl=>by
   simp only [Ax] at h
   split at h
   case h_2=>cases h
   rename_i s' t hs ht
   cases h
   by_cases e:k=l0
   .subst e;exact ⟨q,cM⟩
   .rw [aD e] at hl
    obtain ⟨q,hq⟩:=Cy ht l0 s hl
    exact ⟨q,List.mem_cons_of_mem _ hq⟩
theorem YT {a b:Option Nat} {n:Nat} (h:aFq a b=false) (ha:a=some n):b≠some n:=by
 subst ha
 intro hb
 subst hb
 simp [aFq] at h
theorem aW {P:Program} {Γ:Env} {f:FuncId} {gl:List (Nat × Nat)} {F0:Nat} {dec:List SV->aZ->Option Canon} (Yb:Γ.aR=gl)
 (h:∀ vs T c,dec vs T=some c->(∀ q∈c.conds,q)->aF P Γ f c.eR (fun l=>look l c.T0) F0 F0 c.e0):aH P Γ f (aK gl F0 dec):=by
 refine aH.LH fun vs T lab F e he ho=>?_
 unfold aK at he
 split at he
 case h_1=>cases he
 rename_i c hc
 split at he
 case h_1=>cases he
 rename_i sl Ow
 split at he
 case h_2=>cases he
 rename_i p q e1 hp hq hb gY
 cases he
 have Aq:=iD ho
 have hpp:=iD (fB ho)
 have hqq:=fB (fB ho)
 unfold Xl at gY
 simp only [Bool.and_eq_true] at gY
 obtain ⟨k1,k2,k3,k4,k5,k6⟩:=gY
 have oF:∀ l0 s,pB gl sl l0=some s->l0<F0:=by
  intro l0 s hs
  unfold pB at hs
  split at hs
  .rename_i q0 CZ
   obtain ⟨q1,hm⟩:=Cy Ow l0 _ CZ
   have:=List.all_eq_true.1 k2 _ hm
   simp only [Bool.and_eq_true] at this
   simpa [Nat.blt_eq] using this.1
  .split at hs
   .rename_i aPe
    simp only [List.any_eq_true] at aPe
    obtain ⟨p,hm,he⟩:=aPe
    have:=List.all_eq_true.1 k3 p hm
    have he:=cH he
    rw [<- he]
    simpa [Nat.blt_eq] using this
   .cases hs
 have key:aF P Γ f vs T lab F e1:=by
  refine QH (vw:=pB gl sl) (h vs T c hc Aq) (fun l0 hl=>?_) (fun n l hl=>?_) (fun w0 M V w xs hT hx=>?_) (fun l0 B0 hl ho=>?_) (Nat.le_of_ble_eq_true k5) (fun l0 B0 hl=>?_) hb
  .cases hv:pB gl sl l0 with
   | none=>rfl
   | some s=>have:=oF l0 s hv;omega
  .rw [Yb] at hl
   have hm:=fY hl
   unfold pB
   split
   .rename_i q0 CZ
    obtain ⟨q1,hm1⟩:=Cy Ow l _ CZ
    have:=List.all_eq_true.1 k2 _ hm1
    simp only [Bool.and_eq_true,Bool.not_eq_true'] at this
    have h2:=this.2
    exfalso
    have:(gl.any fun q=>Nat.beq q.2 l)=true:=List.any_eq_true.2 ⟨_,hm,Nat.beq_refl l⟩
    rw [h2] at this
    cases this
   .have:(gl.any fun p=>Nat.beq p.2 l)=true:=List.any_eq_true.2 ⟨_,hm,Nat.beq_refl l⟩
    rw [this]
  .have Yv:∀ l0 u,pB gl sl l0=some (.val u)->∃ x,den V u=some x:=by
    intro l0 u hu
    unfold pB at hu
    split at hu
    .rename_i q0 CZ;cases hu;exact Mv hT hx Ow l0 u CZ
    .split at hu
     .cases hu
     .cases hu
   have nY:Gk T (pB gl sl):=by
    intro l0 v cs hv
    unfold pB at hv
    split at hv
    .rename_i q0 CZ
     cases hv
     exact Mu Ow l0 v cs CZ
    .split at hv
     .cases hv
     .cases hv
   have at0:∀ l0 B0,look l0 c.T0=some B0->okB (seen (pB gl sl) V) w l0 B0/\(∀ n,B0.aN (seen (pB gl sl) V) l0=some n->(∃ l B,oB (pB gl sl) l0=some l/\T l=some B/\B.aN V l=some n)\/(n<w0.heap.size/\¬ M n))/\(B0.owned=true->∃ l B,pB gl sl l0=some (.lab l 0)/\T l=some B/\B.owned=true/\∀ n,B0.aN (seen (pB gl sl) V) l0=some n->B.aN V l=some n):=by
    intro l0 B0 hl
    obtain ⟨CQ,h1,h2⟩:=Jk hq hqq l0 B0 hl
    exact aBo nY hT h1 h2 (Yv l0)
   refine ⟨fun ys hy=>pJ nY hT hp hpp ys hy,fun l0 B0 hl=>(at0 l0 B0 hl).1,fun l0 B0 l1 B1 n dD hl CE ho hn Ox=>?_,fun l0 B0 n hl ho hn=>?_,fun M' hM l0 B0 hl=>?_⟩
   .obtain ⟨la,Ba,c1,a2,c3,Kp⟩:=(at0 l0 B0 hl).2.2 ho
    have a3:=Kp n hn
    have a1:oB (pB gl sl) l0=some la:=by simp [oB,c1]
    rcases (at0 l1 B1 CE).2.1 n Ox with ⟨lb,Bb,b1,b2,b3⟩ | SH
    .have hd:=wB k1 hl
     simp only [ho] at hd
     have RH:=wB hd CE
     simp only [Bool.or_eq_true,Bool.not_eq_true'] at RH
     rcases RH with RH | RH
     .exact dD (cH RH)
     .have aZa:la≠lb:=fun e=>YT RH a1 (by rw [b1,e])
      exact hT.jN la Ba lb Bb n aZa a2 b2 c3 a3 b3
    .rcases hT.perm la Ba n a2 c3 a3 with RG | hm
     .have:=SH.1;omega
     .exact SH.2 hm
   .obtain ⟨la,Ba,c1,a2,c3,Kp⟩:=(at0 l0 B0 hl).2.2 ho
    exact ⟨la,Ba,c1,a2,c3,Kp n hn⟩
   .obtain ⟨CQ,h1,h2⟩:=Jk hq hqq l0 B0 hl
    exact MP nY hT h1 h2 hM
  .have:=wB k4 hl
   simp only [ho,Bool.and_eq_true] at this
   refine ⟨by simpa [Nat.blt_eq] using this.1,fun hn=>?_⟩
   rw [hn] at this
   cases this.2
  .have:=wB k6 hl
   simpa [Nat.blt_eq] using this
 exact key
end
noncomputable def Ym (t:Nat) (k:IntKind) (ty:TypeId) (s:St):Option St:=match s.g.get t with
 | some (.raw (.slice none 0 0))=>match Tr.put (.buf s.nx) 64 s.g t,Tr.put (SB.cT k [] ty) 64 s.tb s.nx with
   | some g,some tb=>some { s with g:=g,tb:=tb,nx:=s.nx+1 }
   | _,_=>none
 | _=>none
noncomputable def oN:List (Nat × IntKind × TypeId)->St->Option St
 | [],s=>some s
 | (t,k,ty)::r,s=>match Ym t k ty s with
   | some s=>oN r s
   | none=>none
section
variable {P:Program} {Γ:Env} {w0:World} {M:Nat->Prop} {B:aZ} {N F0:Nat} {V0:aY}
theorem Inv.Ym {t:Nat} {k:IntKind} {ty:TypeId} {s s':St} (h:Ym t k ty s=some s') {V:aY} {a:Act} {w:World} (hi:Inv P Γ w0 M B N F0 V0 s V a w):∃ V',Inv P Γ w0 M B N F0 V0 s' V' a w:=by
 unfold Sx.Ym at h
 split at h
 case h_2=>cases h
 rename_i hg
 split at h
 case h_2=>cases h
 rename_i g tb h1 h2
 cases h
 have hf:V.fresh s.nx:=hi.top.fresh
 have bN:=aY.bS hf s.nx (Nat.le_refl _) (by omega) (.slice none 0 0)
 have hT:St.T B { s with g:=g,tb:=tb,nx:=s.nx+1 }=fun l=>if l=s.nx then some (.cT k [] ty) else s.T B l:=by
  funext l
  simp only [St.T,Tr.hY _ _ _ _ _ h2 l]
  by_cases e:l=s.nx
  .simp [e]
  .simp [e]
 refine ⟨V.aV s.nx (.slice none 0 0),fun m v hv=>?_,fun d v hv=>?_,hi.size,?_,?_,fun n l hl=>bN.1.1 _ _ (hi.aR n l hl),fun l hl=>?_,V0.le_trans hi.le bN.1,fun l hl=>?_,fun l hl hn=>?_,?_,fun l hl=>?_⟩
 .have hv:g.get m=some v:=hv
  rw [Tr.hY _ _ _ _ _ h1 m] at hv
  split at hv
  .rename_i e
   cases hv
   have:=hi.tmp t _ hg
   simp only [den,aU] at this
   rw [e,<- this]
   simp [den,aY.aV]
  .exact oR bN.1 (hi.tmp m v hv)
 .have hv:g.get d=some v:=hv
  rw [Tr.hY _ _ _ _ _ h1 d] at hv
  split at hv
  .rename_i e;subst e;exact hi.keys d _ hg
  .exact hi.keys d v hv
 .obtain ⟨xs,h3,h4⟩:=hi.defers
  exact ⟨xs,cZ bN.1 h3,h4⟩
 .rw [hT]
  refine hi.eG.step (N:=fun l=>if l=s.nx then some (.cT k [] ty) else none) bN.1 (fun l C hl=>?_) (fun l C hl=>?_) (fun l C n hl hn=>?_) (fun l C l' C' n _ hl _ _ hn=>?_) (Nat.le_refl _) (fun _ _ _=>rfl) rfl rfl rfl
  .by_cases e:l=s.nx
   .left;simpa [e] using hl
   .right;simpa [e] using hl
  .by_cases e:l=s.nx
   .simp only [if_pos e,aU] at hl
    subst hl e
    exact ⟨[],rfl,.slice none 0 0,by simp [aY.aV],⟨rfl,.inl ⟨rfl,rfl⟩⟩,iI.nil rfl⟩
   .simp [e] at hl
  .by_cases e:l=s.nx
   .simp only [if_pos e,aU] at hl
    subst hl e
    simp [SB.aN,aY.aV,Value.ownBlock] at hn
   .simp [e] at hl
  .by_cases e:l=s.nx
   .simp only [if_pos e,aU] at hl
    subst hl e
    simp [SB.aN,aY.aV,Value.ownBlock] at hn
   .simp [e] at hl
 .have hl:s.nx+1<=l:=hl
  obtain ⟨e1,e2⟩:=hi.top l (by omega)
  exact ⟨e1,by simp only [aY.aV];rw [if_neg (by omega)];exact e2⟩
 .have dD:l≠s.nx:=by have:=hi.nx;omega
  refine ⟨(hi.low l hl).1,?_⟩
  simp only [aY.aV,if_neg dD]
  exact (hi.low l hl).2
 .have dD:l≠s.nx:=by have:=hi.nx;omega
  show tb.get l=none
  rw [Tr.hY _ _ _ _ _ h2 l,if_neg dD]
  exact hi.ch l hl hn
 .have:=hi.nx
  show F0<=s.nx+1
  omega
 .have hl:s.nx+1<=l:=hl
  rw [hT]
  simp only
  rw [if_neg (by omega)]
  exact hi.hi l (by omega)
theorem Inv.oN:∀ {l:List (Nat × IntKind × TypeId)} {s s':St},oN l s=some s'->∀ {V:aY} {a:Act} {w:World},Inv P Γ w0 M B N F0 V0 s V a w->∃ V',Inv P Γ w0 M B N F0 V0 s' V' a w
 | [],s,s',h,V,a,w,hi=>by simp only [Sx.oN,aU] at h;subst h;exact ⟨V,hi⟩
 | (t,k,ty)::r,s,s',h,V,a,w,hi=>by
   simp only [Sx.oN] at h
   split at h
   .rename_i s1 h1
    obtain ⟨V1,zR⟩:=hi.Ym h1
    exact Inv.oN h zR
   .cases h
noncomputable def toN (F0:Nat) (B:aZ) (Eo:List (Nat × IntKind × TypeId)) (eO:List Nat) (gs:List (Nat × SV)) (tb:List (Nat × SB)) (nx:Nat) (ws:List Nat) (df:List SV) (r:Option pU):Option (Cf × List Fr × List Prop):=match r with
 | some r=>match oN Eo r.st with
   | some s=>QP F0 B eO gs tb nx ws df (some ⟨r.cf,r.fr,s⟩)
   | none=>none
 | none=>none
theorem Nf:∀ {l:List (Nat × IntKind × TypeId)} {s s':St},oN l s=some s'->s'.ob=s.ob
 | [],s,s',h=>by simp only [oN,aU] at h;subst h;rfl
 | (t,k,ty)::r,s,s',h=>by
   simp only [oN] at h
   split at h
   .rename_i s1 h1
    rw [Nf h]
    unfold Ym at h1
    split at h1
    .split at h1
     .cases h1;rfl
     .cases h1
    .cases h1
   .cases h
theorem G.toN (aT:cA P Γ) (aX:cK P Γ) (jF:P.follows .mixedOrders=true) (hb:qF Γ B F0 V0) {stops:List Nat} {lf n:Nat} {cf CJ:Cf} {K K':List Fr} {s:St} (hs:List Bool) {Eo:List (Nat × IntKind × TypeId)} {eO:List Nat} {gs:List (Nat × SV)} {tb:List (Nat × SB)} {nx:Nat} {ws:List Nat} {df:List SV} {ps:List Prop} {Q:Exit->Act->World->Prop}
 (h:toN F0 B Eo eO gs tb nx ws df (gZ Γ B F0 N stops lf n cf K (s.hint hs))=some (CJ,K',ps)) (hp:∀ q∈ps,q) (hG:G P Γ w0 M B N F0 V0 CJ K' (cB gs tb nx ws df) Q):G P Γ w0 M B N F0 V0 cf K s Q:=by
 unfold Sx.toN at h
 split at h
 case h_2=>cases h
 rename_i r hr
 split at h
 case h_2=>cases h
 rename_i s0 h0
 unfold QP at h
 simp only at h
 split at h
 case h_2=>cases h
 rename_i s1 h1
 split at h
 case h_2=>cases h
 rename_i CQ h2
 cases h
 have sQ:=Nf h0
 have dR:G P Γ w0 M B N F0 V0 cf K (s.hint hs) Q:=by
  refine G.run aT aX jF hr (fun q hq=>hp q (List.mem_append_left _ (sQ ▸ hq))) ?_
  intro V a w hi
  obtain ⟨V1,zR⟩:=Inv.oN h0 hi
  obtain ⟨V2,Ui⟩:=zR.norm hb h1
  exact hG V2 a w (Ui.cast hb h2 (fB hp))
 intro V a w hi
 exact dR V a w (hi.hints s.ob hs)
mutual
def FP:SV->SV->List (Nat × Nat)
 | .ptr l _ _,.ptr l' _ _=>[(l',l)]
 | .aG l _ _ _ _,.aG l' _ _ _ _=>[(l',l)]
 | .cP l _ _ _,.cP l' _ _ _=>[(l',l)]
 | .buf l,.buf l'=>[(l',l)]
 | .jH l _,.jH l' _=>[(l',l)]
 | .mS l _ _,.mS l' _ _=>[(l',l)]
 | .eV l _,.eV l' _=>[(l',l)]
 | .sP l _,.sP l' _=>[(l',l)]
 | .wT l _ _,.wT l' _ _=>[(l',l)]
 | .sH _ v,.sH _ v'=>FP v v'
 | .agg vs,.agg us=>yH vs us
 | .eL vs,.eL us=>yH vs us
 | .fn _ xs ys,.fn _ us vs=>yH xs us++yH ys vs
 | _,_=>[]
def yH:List SV->List SV->List (Nat × Nat)
 | v::r,u::t=>FP v u++yH r t
 | _,_=>[]
end
def FQ (g:Nat->Option SV):List (Nat × SV)->List (Nat × Nat)
 | []=>[]
 | (t,u)::r=>match g t with
   | some v=>FP v u++FQ g r
   | none=>FQ g r
def Fx (g:Nat->Option SB) (ps:List (Nat × Nat)):List (Nat × SB)->List (Nat × Nat)
 | []=>[]
 | (l,B)::r=>match B,look l ps with
   | .own us _,some k=>match g k with
     | some (.own vs _)=>yH vs us++Fx g ps r
     | _=>Fx g ps r
   | .own us _,none=>match g l with
     | some (.own vs _)=>yH vs us++Fx g ps r
     | _=>Fx g ps r
   | _,_=>Fx g ps r
def Ch (g:Nat->Option SB) (ps:List (Nat × Nat)):List (Nat × SB)->List (Nat × Nat)
 | []=>[]
 | (l,B)::r=>match B,look l ps with
   | .own us _,some k=>match g k with
     | some (.own vs _)=>yH vs us++Ch g ps r
     | _=>Ch g ps r
   | _,_=>Ch g ps r
def JM (ps:List (Nat × Nat)) (l:Nat):Nat->List Nat
 | 0=>[]
 | n+1=>(look l ps).getD 0::JM ps (l+1) n
noncomputable def aSt (F0:Nat) (gs:List (Nat × SV)) (tb:List (Nat × SB)) (nx:Nat) (s:St):List Nat:=
 let p1:=FQ s.g.get gs
 let p2:=p1++Ch s.tb.get p1 tb
 let p3:=p2++Ch s.tb.get p2 tb
 let p4:=p3++Fx s.tb.get p3 tb
 JM p4 F0 (nx-F0)
noncomputable def yT (F0:Nat) (B:aZ) (Eo:List (Nat × IntKind × TypeId)) (gs:List (Nat × SV)) (tb:List (Nat × SB)) (nx:Nat) (ws:List Nat) (df:List SV) (r:Option pU):Option (Cf × List Fr × List Prop):=match r with
 | some r=>match oN Eo r.st with
   | some s=>toN F0 B Eo (aSt F0 gs tb nx s) gs tb nx ws df (some r)
   | none=>none
 | none=>none
theorem G.yT (aT:cA P Γ) (aX:cK P Γ) (jF:P.follows .mixedOrders=true) (hb:qF Γ B F0 V0) {stops:List Nat} {lf n:Nat} {cf CJ:Cf} {K K':List Fr} {s:St} (hs:List Bool) {Eo:List (Nat × IntKind × TypeId)} {gs:List (Nat × SV)} {tb:List (Nat × SB)} {nx:Nat} {ws:List Nat} {df:List SV} {ps:List Prop} {Q:Exit->Act->World->Prop}
 (h:yT F0 B Eo gs tb nx ws df (gZ Γ B F0 N stops lf n cf K (s.hint hs))=some (CJ,K',ps)) (hp:∀ q∈ps,q) (hG:G P Γ w0 M B N F0 V0 CJ K' (cB gs tb nx ws df) Q):G P Γ w0 M B N F0 V0 cf K s Q:=by
 unfold Sx.yT at h
 split at h
 case h_2=>cases h
 rename_i r hr
 split at h
 case h_2=>cases h
 rename_i s0 h0
 exact G.toN aT aX jF hb hs (stops:=stops) (lf:=lf) (n:=n) (by rw [hr];exact h) hp hG
theorem G.lF (aT:cA P Γ) (aX:cK P Γ) (jF:P.follows .mixedOrders=true) (hb:qF Γ B F0 V0) {stops:List Nat} {lf n:Nat} {cf:Cf} {K1 K:List Fr} {s:St} (hs:List Bool) {Eo:List (Nat × IntKind × TypeId)} {gs:List (Nat × SV)} {tb:List (Nat × SB)} {nx:Nat} {ws:List Nat} {df:List SV} {ps:List Prop} {Q:Exit->Act->World->Prop} {S:Nat->St->Prop} {r:Nat}
 (h:Sx.yT F0 B Eo gs tb nx ws df (gZ Γ B F0 N stops lf n cf K1 (s.hint hs))=some (.at .normal,[],ps)) (hp:∀ q∈ps,q) (r':Nat) (cI:r'<r) (hS:S r' (cB gs tb nx ws df)) :
 G P Γ w0 M B N F0 V0 cf K1 s (Exit.then (fun a w=>∃ r',r'<r/\∃ s',S r' s'/\∃ V,Inv P Γ w0 M B N F0 V0 s' V a w) (KQ P K Q)):=
 G.yT aT aX jF hb hs h hp (G.again fun V _ _ hi=>⟨r',cI,_,hS,V,hi⟩)
end
theorem XZ {α:Type} (tm:Array α) (t:Nat) (d:α):tm.setIfInBounds t (tm.getD t d)=tm:=by
 apply Array.ext
 .simp
 .intro i h1 h2
  rw [Array.getElem_setIfInBounds (by simpa using h1)]
  split
  .rename_i e;subst e;simp [Array.getD_eq_getD_getElem?,h2]
  .rfl
theorem Act.iM (a:Act) (t:Tmp):a.put (some t) (a.eval (.tmp t))=a:=by
 obtain ⟨tm,df⟩:=a
 show Act.mk (tm.setIfInBounds t (tm.getD t undef)) df=_
 rw [XZ]
section
variable {w0 w:World} {M:Nat->Prop} {V:aY} {T:aZ} {lab:Nat}
theorem aC.close (h:aC w0 M V T w) (hf:V.fresh lab) (jY:∀ k,lab<=k->T k=none) {l cap n m:Nat} {cells:List SV} {el:TypeId} (hl:T l=some (.own cells el)) (hc:cells.length=cap) (hm:m<=cap) (qC:cap<=1000000) {lb:Nat} {cs:List SV} {ty:TypeId} {i:Nat}
 (hb:T lb=some (.own cs ty)) (hi:cs[i]?=some (.aG l true 0 n cap)) (dD:l≠lb) (v:SV) :
 ∃ V',V.ext lab V'/\aC w0 M V' (eI T lab { val:=v,new:=[.row 1 (cells.take m) el],wr:=[(l,.gone),(lb,.own (cs.set i (.cP lab 0 n 0)) ty)] }) w:=by
 obtain ⟨us,pA,b,hβ,hh⟩:=h.ok l _ hl
 obtain ⟨xs,lV,b2,mO,SG⟩:=h.ok lb _ hb
 have cI:l<lab:=Nat.lt_of_not_le fun q=>by rw [jY l q] at hl;cases hl
 have UG:lb<lab:=Nat.lt_of_not_le fun q=>by rw [jY lb q] at hb;cases hb
 have bN:V.ext lab ((V.put lab (b,0)).aV lab (.int .i64 (cap:Nat))):=by
  have h1:=aY.jU hf lab (Nat.le_refl _) (by omega) (b,0)
  refine ⟨⟨fun k p hp=>h1.1.1 k p hp,fun k p hp=>?_⟩,fun k hk=>⟨(h1.2 k hk).1,?_⟩⟩
  .simp only [aY.aV]
   by_cases e:k=lab
   .subst e;rw [(hf k (Nat.le_refl _) (by omega)).2] at hp;cases hp
   .rw [if_neg e];exact hp
  .simp only [aY.aV]
   rw [if_neg (by omega)]
   rfl
 refine ⟨_,bN,?_⟩
 obtain ⟨V',Pa⟩:∃ V',V'=(V.put lab (b,0)).aV lab (.int .i64 (cap:Nat)):=⟨_,rfl⟩
 rw [<- Pa] at bN |-
 have e1:V'.β lab=some (b,0):=by rw [Pa];simp [aY.put,aY.aV]
 have e2:V'.σ lab=some (.int .i64 (cap:Nat)):=by rw [Pa];simp [aY.aV]
 have yJ:us.length=cap:=by rw [bB pA,hc]
 have DG:b≠b2:=by
  intro e
  exact h.jN l _ lb _ b dD hl hb rfl (by simp [SB.aN,hβ]) (by simp [SB.aN,mO,e])
 have pC:aE V' (cs.set i (.cP lab 0 n 0))=some xs:=by
  have gE:aE V' cs=some xs:=cZ bN.1 lV
  obtain ⟨x,nJ,Ho⟩:=dX gE i _ hi
  have hx4:den V' (.cP lab 0 n 0)=some x:=by
   simp only [den,bN.1.1 _ _ hβ,Option.map_some,aU] at Ho
   rw [<- Ho]
   simp [den,e1,e2,nP]
  have gen:∀ (cs:List SV) (xs:List Value) (i:Nat),aE V' cs=some xs->xs[i]?=some x->aE V' (cs.set i (.cP lab 0 n 0))=some xs:=by
   intro cs
   induction cs with
   | nil=>intro xs i h1 h2;simpa using h1
   | cons c r ih=>
     intro xs i h1 h2
     simp only [aE,Option.map_eq_some_iff,Option.bind_eq_some_iff] at h1
     obtain ⟨y,hy,ys,qK,rfl⟩:=h1
     cases i with
     | zero=>
       simp only [List.getElem?_cons_zero,aU] at h2
       subst h2
       simp only [List.set_cons_zero,aE,hx4,qK,Option.bind_some,Option.map_some]
     | succ i=>
       simp only [List.getElem?_cons_succ] at h2
       simp only [List.set_cons_succ,aE,hy,ih ys i qK h2,Option.bind_some,Option.map_some]
  exact gen cs xs i gE nJ
 refine h.step (N:=fun k=>if k=lab then some (.row 1 (cells.take m) el) else if k=l then some .gone else if k=lb then some (.own (cs.set i (.cP lab 0 n 0)) ty) else none) bN.1 (fun k C hk=>?_) (fun k C hk=>?_) (fun k C p hk hp=>?_) (fun k C k' C' p zF hk gW ho hp=>?_) (Nat.le_refl _) (fun _ _ _=>rfl) rfl rfl rfl
 .simp only [eI,bJ.eG,fO,List.cons_append,List.nil_append] at hk
  by_cases k1:l=k
  .subst k1
   rw [aI] at hk
   left
   simp only [if_neg (show ¬ l=lab by omega),if_true]
   simpa using hk
  .rw [aD k1] at hk
   by_cases k2:lb=k
   .subst k2
    rw [aI] at hk
    left
    simp only [if_neg (show ¬ lb=lab by omega),if_neg (fun q=>dD (Eq.symm q)),if_true]
    simpa using hk
   .rw [aD k2] at hk
    by_cases k3:lab=k
    .subst k3;rw [aI] at hk;left;simpa using hk
    .rw [aD k3] at hk
     right
     simp only [look] at hk
     exact ⟨by rw [if_neg (fun q=>k3 q.symm),if_neg (fun q=>k1 q.symm),if_neg (fun q=>k2 q.symm)],hk⟩
 .by_cases k1:k=lab
  .rw [if_pos k1] at hk
   cases hk
   subst k1
   refine ⟨us.take m,by simp only [SB.cells];exact cZ bN.1 (eK m pA),b,cap,us.toArray,e1,e2,hh,?_,by simp [yJ],⟨m,by simp [yJ];omega,hm⟩,by simp⟩
   have:(1000000:Nat)<=maxLen:=by decide
   omega
  .rw [if_neg k1] at hk
   by_cases k2:k=l
   .rw [if_pos k2] at hk;cases hk;exact ⟨[],rfl,trivial⟩
   .rw [if_neg k2] at hk
    by_cases k3:k=lb
    .rw [if_pos k3] at hk
     cases hk
     subst k3
     exact ⟨xs,pC,b2,bN.1.1 _ _ mO,SG⟩
    .rw [if_neg k3] at hk;cases hk
 .by_cases k1:k=lab
  .rw [if_pos k1] at hk
   cases hk
   subst k1
   simp only [SB.aN,e1,Option.map_some,aU] at hp
   subst hp
   right;left
   exact ⟨l,_,hl,rfl,by simp [SB.aN,hβ],by simp [if_neg (show ¬ l=k by omega)]⟩
  .rw [if_neg k1] at hk
   by_cases k2:k=l
   .rw [if_pos k2] at hk;cases hk;cases hp
   .rw [if_neg k2] at hk
    by_cases k3:k=lb
    .rw [if_pos k3] at hk
     cases hk
     subst k3
     simp only [SB.aN,bN.1.1 _ _ mO,Option.map_some,aU] at hp
     subst hp
     right;left
     exact ⟨k,_,hb,rfl,by simp [SB.aN,mO],by simp [if_neg k1,if_neg k2]⟩
    .rw [if_neg k3] at hk;cases hk
 .have aN:∀ k C p,(if k=lab then some (SB.row 1 (cells.take m) el) else if k=l then some .gone else if k=lb then some (.own (cs.set i (.cP lab 0 n 0)) ty) else none)=some C->C.aN V' k=some p->(k=lab/\p=b)\/(k=lb/\p=b2):=by
   intro k C p hk hp
   by_cases k1:k=lab
   .rw [if_pos k1] at hk
    cases hk
    subst k1
    simp only [SB.aN,e1,Option.map_some,aU] at hp
    exact .inl ⟨rfl,hp.symm⟩
   .rw [if_neg k1] at hk
    by_cases k2:k=l
    .rw [if_pos k2] at hk;cases hk;cases hp
    .rw [if_neg k2] at hk
     by_cases k3:k=lb
     .rw [if_pos k3] at hk
      cases hk
      subst k3
      simp only [SB.aN,bN.1.1 _ _ mO,Option.map_some,aU] at hp
      exact .inr ⟨rfl,hp.symm⟩
     .rw [if_neg k3] at hk;cases hk
  intro Pl
  rcases aN k C p hk hp with ⟨r1,r2⟩ | ⟨r1,r2⟩ <;> rcases aN k' C' p gW Pl with ⟨r3,r4⟩ | ⟨r3,r4⟩
  .omega
  .exact DG (r2.symm.trans r4)
  .exact DG (r4.symm.trans r2)
  .omega
theorem aC.aNg (h:aC w0 M V T w) (hf:V.fresh lab) (jY:∀ k,lab<=k->T k=none) {l cap n m:Nat} {cells:List SV} {el:TypeId} (hl:T l=some (.own cells el)) (hc:cells.length=cap) (hm:m<=cap) (qC:cap<=1000000) {x:Value} (hx:den V (.aG l true 0 n cap)=some x) :
 ∃ V',V.ext lab V'/\den V' (.cP lab 0 n 0)=some x/\aC w0 M V' (eI T lab { val:=.cP lab 0 n 0,new:=[.row 1 (cells.take m) el],wr:=[(l,.gone)] }) w:=by
 obtain ⟨us,pA,b,hβ,hh⟩:=h.ok l _ hl
 have cI:l<lab:=Nat.lt_of_not_le fun q=>by rw [jY l q] at hl;cases hl
 have bN:V.ext lab ((V.put lab (b,0)).aV lab (.int .i64 (cap:Nat))):=by
  have h1:=aY.jU hf lab (Nat.le_refl _) (by omega) (b,0)
  refine ⟨⟨fun k p hp=>h1.1.1 k p hp,fun k p hp=>?_⟩,fun k hk=>⟨(h1.2 k hk).1,?_⟩⟩
  .simp only [aY.aV]
   by_cases e:k=lab
   .subst e;rw [(hf k (Nat.le_refl _) (by omega)).2] at hp;cases hp
   .rw [if_neg e];exact hp
  .simp only [aY.aV]
   rw [if_neg (by omega)]
   rfl
 refine ⟨_,bN,?_⟩
 obtain ⟨V',Pa⟩:∃ V',V'=(V.put lab (b,0)).aV lab (.int .i64 (cap:Nat)):=⟨_,rfl⟩
 rw [<- Pa] at bN |-
 have e1:V'.β lab=some (b,0):=by rw [Pa];simp [aY.put,aY.aV]
 have e2:V'.σ lab=some (.int .i64 (cap:Nat)):=by rw [Pa];simp [aY.aV]
 have yJ:us.length=cap:=by rw [bB pA,hc]
 refine ⟨?_,?_⟩
 .simp only [den,hβ,Option.map_some,aU] at hx
  rw [<- hx]
  simp [den,e1,e2,nP]
 refine h.step (N:=fun k=>if k=lab then some (.row 1 (cells.take m) el) else if k=l then some .gone else none) bN.1 (fun k C hk=>?_) (fun k C hk=>?_) (fun k C p hk hp=>?_) (fun k C k' C' p zF hk gW ho hp=>?_) (Nat.le_refl _) (fun _ _ _=>rfl) rfl rfl rfl
 .simp only [eI,bJ.eG,fO,List.cons_append,List.nil_append] at hk
  by_cases k1:l=k
  .subst k1
   rw [aI] at hk
   left
   simp only [if_neg (show ¬ l=lab by omega),if_true]
   simpa using hk
  .rw [aD k1] at hk
   by_cases k3:lab=k
   .subst k3;rw [aI] at hk;left;simpa using hk
   .rw [aD k3] at hk
    right
    simp only [look] at hk
    exact ⟨by rw [if_neg (fun q=>k3 q.symm),if_neg (fun q=>k1 q.symm)],hk⟩
 .by_cases k1:k=lab
  .rw [if_pos k1] at hk
   cases hk
   subst k1
   refine ⟨us.take m,by simp only [SB.cells];exact cZ bN.1 (eK m pA),b,cap,us.toArray,e1,e2,hh,?_,by simp [yJ],⟨m,by simp [yJ];omega,hm⟩,by simp⟩
   have:(1000000:Nat)<=maxLen:=by decide
   omega
  .rw [if_neg k1] at hk
   by_cases k2:k=l
   .rw [if_pos k2] at hk;cases hk;exact ⟨[],rfl,trivial⟩
   .rw [if_neg k2] at hk;cases hk
 .by_cases k1:k=lab
  .rw [if_pos k1] at hk
   cases hk
   subst k1
   simp only [SB.aN,e1,Option.map_some,aU] at hp
   subst hp
   right;left
   exact ⟨l,_,hl,rfl,by simp [SB.aN,hβ],by simp [if_neg (show ¬ l=k by omega)]⟩
  .rw [if_neg k1] at hk
   by_cases k2:k=l
   .rw [if_pos k2] at hk;cases hk;cases hp
   .rw [if_neg k2] at hk;cases hk
 .intro Pl
  by_cases k1:k=lab
  .by_cases k2:k'=lab
   .omega
   .rw [if_neg k2] at gW
    by_cases k3:k'=l
    .rw [if_pos k3] at gW;cases gW;cases Pl
    .rw [if_neg k3] at gW;cases gW
  .rw [if_neg k1] at hk
   by_cases k3:k=l
   .rw [if_pos k3] at hk;cases hk;cases ho
   .rw [if_neg k3] at hk;cases hk
theorem aC.aNh (h:aC w0 M V T w) (hf:V.fresh lab) (jY:∀ k,lab<=k->T k=none) {l cap n:Nat} {cells:List SV} {el:TypeId} {k0:IntKind} {ns:List Int} (hl:T l=some (.own cells el)) (hc:cells.length=cap) (hn:n<=cap) (qC:cap<=1000000) (hk:cX k0 (cells.take n)=some ns) (kF:(cX k0 cells).isSome=true) {x:Value} (hx:den V (.aG l true 0 n cap)=some x) :
 ∃ V',V.ext lab V'/\den V' (.buf lab)=some x/\aC w0 M V' (eI T lab { val:=.buf lab,new:=[.cT k0 ns el],wr:=[(l,.gone)] }) w:=by
 obtain ⟨us,pA,b,hβ,hh⟩:=h.ok l _ hl
 have cI:l<lab:=Nat.lt_of_not_le fun q=>by rw [jY l q] at hl;cases hl
 have bN:=aY.bS hf lab (Nat.le_refl _) (by omega) x
 have e2:(V.aV lab x).σ lab=some x:=by simp [aY.aV]
 have yJ:us.length=cap:=by rw [bB pA,hc]
 have hx':x = .slice (some ⟨b,0,none⟩) n cap:=by
  simp only [den,hβ,Option.map_some,aU] at hx
  exact hx.symm
 have cR:us.take n=ns.map (Value.int k0):=by
  have h1:=eK n pA
  have h2:=cU (V:=V) hk
  rw [h1] at h2
  exact Option.some.inj h2
 have GR:ns.length=n:=by
  have:=congrArg List.length cR
  simp [yJ] at this
  omega
 refine ⟨_,bN,by simp [den,e2],?_⟩
 refine h.step (N:=fun k=>if k=lab then some (.cT k0 ns el) else if k=l then some .gone else none) bN.1 (fun k C hk=>?_) (fun k C hk=>?_) (fun k C p hk hp=>?_) (fun k C k' C' p zF hk gW ho hp=>?_) (Nat.le_refl _) (fun _ _ _=>rfl) rfl rfl rfl
 .simp only [eI,bJ.eG,fO,List.cons_append,List.nil_append] at hk
  by_cases k1:l=k
  .subst k1
   rw [aI] at hk
   left
   simp only [if_neg (show ¬ l=lab by omega),if_true]
   simpa using hk
  .rw [aD k1] at hk
   by_cases k3:lab=k
   .subst k3;rw [aI] at hk;left;simpa using hk
   .rw [aD k3] at hk
    right
    simp only [look] at hk
    exact ⟨by rw [if_neg (fun q=>k3 q.symm),if_neg (fun q=>k1 q.symm)],hk⟩
 .by_cases k1:k=lab
  .rw [if_pos k1] at hk
   cases hk
   subst k1
   refine ⟨_,rfl,x,e2,⟨by simp,.inr ⟨b,cap,us.toArray,?_,Nat.zero_le _,hh,by rw [GR];exact hn,?_,by simp [yJ],?_⟩⟩,fun b' iE=>?_⟩
   .rw [hx',GR]
   .have:(1000000:Nat)<=maxLen:=by decide
    omega
   .rw [GR,<- cR];simp
   .rw [hx'] at iE
    cases iE
    obtain ⟨ms,Pm⟩:=Option.isSome_iff_exists.1 kF
    have h2:=cU (V:=V) Pm
    have aYl:aE V cells=some us:=pA
    rw [aYl] at h2
    cases h2
    refine ⟨_,_,_,hh,fun q hq=>?_⟩
    obtain ⟨n,_,rfl⟩:=List.mem_map.1 (by simpa using hq)
    exact ⟨n,rfl⟩
  .rw [if_neg k1] at hk
   by_cases k2:k=l
   .rw [if_pos k2] at hk;cases hk;exact ⟨[],rfl,trivial⟩
   .rw [if_neg k2] at hk;cases hk
 .by_cases k1:k=lab
  .rw [if_pos k1] at hk
   cases hk
   subst k1
   simp only [SB.aN,e2,Option.bind_some] at hp
   rw [hx'] at hp
   simp only [Value.ownBlock,aU] at hp
   subst hp
   right;left
   exact ⟨l,_,hl,rfl,by simp [SB.aN,hβ],by simp [if_neg (show ¬ l=k by omega)]⟩
  .rw [if_neg k1] at hk
   by_cases k2:k=l
   .rw [if_pos k2] at hk;cases hk;cases hp
   .rw [if_neg k2] at hk;cases hk
 .intro Pl
  by_cases k1:k=lab
  .by_cases k2:k'=lab
   .omega
   .rw [if_neg k2] at gW
    by_cases k3:k'=l
    .rw [if_pos k3] at gW;cases gW;cases Pl
    .rw [if_neg k3] at gW;cases gW
  .rw [if_neg k1] at hk
   by_cases k3:k=l
   .rw [if_pos k3] at hk;cases hk;cases ho
   .rw [if_neg k3] at hk;cases hk
theorem aC.aNp (hT:aC w0 M V T w) (hf:V.fresh lab) {l n:Nat} {k:IntKind} {xs:List Int} (hB:T l=some (.gQ k xs)) {x:Value} (hx:den V (.eV l n)=some x) :
 ∃ V',V.ext lab V'/\den V' (.eV lab n)=some x/\aC w0 M V' (eI T lab { val:=.eV lab n,new:=[.gQ k xs] }) w:=by
 simp only [den,Option.bind_eq_some_iff] at hx
 obtain ⟨v,hσ,ex⟩:=hx
 obtain ⟨cs,hc,v',fU,bK⟩:=hT.ok l _ hB
 rw [hσ] at fU
 cases fU
 have bN:=aY.bS hf lab (Nat.le_refl _) (by omega) v
 refine ⟨V.aV lab v,bN,by simp [den,aY.aV,ex],?_⟩
 refine hT.step (N:=fun m=>if m=lab then some (.gQ k xs) else none) bN.1 (fun m C hm=>?_) (fun m C hm=>?_) (fun m C q hm hq=>?_) (fun m C m' C' q dD hm jX sR _=>?_) (Nat.le_refl _) (fun _ _ _=>rfl) rfl rfl rfl
 .unfold eI bJ.eG at hm
  simp only [fO,List.nil_append,look] at hm
  by_cases e:m=lab
  .subst e
   left
   simpa using hm
  .right
   refine ⟨if_neg e,?_⟩
   have:Nat.beq lab m=false:=by
    cases lA:Nat.beq lab m with
    | false=>rfl
    | true=>exact absurd (cH lA).symm e
   simpa [this] using hm
 .split at hm
  .rename_i e
   subst e
   cases hm
   exact ⟨cs,hc,v,by simp [aY.aV],bK⟩
  .cases hm
 .split at hm
  .rename_i e
   subst e
   cases hm
   refine .inr (.inr ⟨rfl,fun l2 B2 hn2 sJ sR lA=>?_⟩)
   simp only [SB.aN,aY.aV,if_pos,Option.bind_some] at hq
   have dD:l2≠l:=fun e=>by subst e;rw [hB] at sJ;cases sJ;cases sR
   exact hT.jN l2 B2 l _ q dD sJ hB sR lA (by simp [SB.aN,hσ,hq])
  .cases hm
 .split at hm
  .cases hm;cases sR
  .cases hm
theorem oU {V:aY} {x:Value} {v:SV} (hv:den V v=some x):∀ (cs:List SV) (xs:List Value) (i:Nat),aE V cs=some xs->xs[i]?=some x->aE V (cs.set i v)=some xs
 | [],xs,i,h1,h2=>by simpa using h1
 | c::r,xs,i,h1,h2=>by
   simp only [aE,Option.map_eq_some_iff,Option.bind_eq_some_iff] at h1
   obtain ⟨y,hy,ys,qK,rfl⟩:=h1
   cases i with
   | zero=>
     simp only [List.getElem?_cons_zero,aU] at h2
     subst h2
     simp only [List.set_cons_zero,aE,hv,qK,Option.bind_some,Option.map_some]
   | succ i=>
     simp only [List.getElem?_cons_succ] at h2
     simp only [List.set_cons_succ,aE,hy,oU hv r ys i qK h2,Option.bind_some,Option.map_some]
theorem aC.aXe (h:aC w0 M V T w) (hf:V.fresh lab) (jY:∀ k,lab<=k->T k=none) {lb:Nat} {cs:List SV} {ty el:TypeId} {k0:IntKind} {i:Nat}
 (hb:T lb=some (.own cs ty)) (hi:cs[i]?=some (.raw (.slice none 0 0))) (v:SV) :
 ∃ V',V.ext lab V'/\aC w0 M V' (eI T lab { val:=v,new:=[.cT k0 [] el],wr:=[(lb,.own (cs.set i (.buf lab)) ty)] }) w:=by
 obtain ⟨xs,lV,b2,mO,SG⟩:=h.ok lb _ hb
 have UG:lb<lab:=Nat.lt_of_not_le fun q=>by rw [jY lb q] at hb;cases hb
 have bN:=aY.bS hf lab (Nat.le_refl _) (by omega) (.slice none 0 0)
 refine ⟨_,bN,?_⟩
 have e2:(V.aV lab (.slice none 0 0)).σ lab=some (.slice none 0 0):=by simp [aY.aV]
 have pC:aE (V.aV lab (.slice none 0 0)) (cs.set i (.buf lab))=some xs:=by
  have gE:aE (V.aV lab (.slice none 0 0)) cs=some xs:=cZ bN.1 lV
  obtain ⟨x,nJ,Ho⟩:=dX gE i _ hi
  simp only [den,aU] at Ho
  exact oU (by rw [<- Ho];simp [den,e2]) cs xs i gE nJ
 refine h.step (N:=fun k=>if k=lab then some (.cT k0 [] el) else if k=lb then some (.own (cs.set i (.buf lab)) ty) else none) bN.1 (fun k C hk=>?_) (fun k C hk=>?_) (fun k C p hk hp=>?_) (fun k C k' C' p zF hk gW ho hp=>?_) (Nat.le_refl _) (fun _ _ _=>rfl) rfl rfl rfl
 .simp only [eI,bJ.eG,fO,List.cons_append,List.nil_append] at hk
  by_cases k2:lb=k
  .subst k2
   rw [aI] at hk
   left
   simp only [if_neg (show ¬ lb=lab by omega),if_true]
   simpa using hk
  .rw [aD k2] at hk
   by_cases k3:lab=k
   .subst k3;rw [aI] at hk;left;simpa using hk
   .rw [aD k3] at hk
    right
    simp only [look] at hk
    exact ⟨by rw [if_neg (fun q=>k3 q.symm),if_neg (fun q=>k2 q.symm)],hk⟩
 .by_cases k1:k=lab
  .rw [if_pos k1] at hk
   cases hk
   subst k1
   exact ⟨[],rfl,_,e2,⟨rfl,.inl ⟨rfl,rfl⟩⟩,iI.nil rfl⟩
  .rw [if_neg k1] at hk
   by_cases k3:k=lb
   .rw [if_pos k3] at hk
    cases hk
    subst k3
    exact ⟨xs,pC,b2,bN.1.1 _ _ mO,SG⟩
   .rw [if_neg k3] at hk;cases hk
 .by_cases k1:k=lab
  .rw [if_pos k1] at hk
   cases hk
   subst k1
   simp [SB.aN,e2,Value.ownBlock] at hp
  .rw [if_neg k1] at hk
   by_cases k3:k=lb
   .rw [if_pos k3] at hk
    cases hk
    subst k3
    simp only [SB.aN,bN.1.1 _ _ mO,Option.map_some,aU] at hp
    subst hp
    right;left
    exact ⟨k,_,hb,rfl,by simp [SB.aN,mO],by simp [if_neg k1]⟩
   .rw [if_neg k3] at hk;cases hk
 .intro Pl
  by_cases k1:k=lab
  .rw [if_pos k1] at hk
   cases hk
   subst k1
   simp [SB.aN,e2,Value.ownBlock] at hp
  .by_cases k2:k'=lab
   .rw [if_pos k2] at gW
    cases gW
    subst k2
    simp [SB.aN,e2,Value.ownBlock] at Pl
   .rw [if_neg k1] at hk
    rw [if_neg k2] at gW
    by_cases k3:k=lb
    .by_cases k4:k'=lb
     .omega
     .rw [if_neg k4] at gW;cases gW
    .rw [if_neg k3] at hk;cases hk
theorem aC.aFx (h:aC w0 M V T w) (hf:V.fresh lab) (jY:∀ k,lab<=k->T k=none) {lb:Nat} {cs:List SV} {ty el:TypeId} {sz:Nat} {i:Nat}
 (hb:T lb=some (.own cs ty)) (hi:cs[i]?=some (.raw (.slice none 0 0))) (v:SV) :
 ∃ V',V.ext lab V'/\aC w0 M V' (eI T lab { val:=v,new:=[.fT sz 0 el],wr:=[(lb,.own (cs.set i (.buf lab)) ty)] }) w:=by
 obtain ⟨xs,lV,b2,mO,SG⟩:=h.ok lb _ hb
 have UG:lb<lab:=Nat.lt_of_not_le fun q=>by rw [jY lb q] at hb;cases hb
 have bN:=aY.bS hf lab (Nat.le_refl _) (by omega) (.slice none 0 0)
 refine ⟨_,bN,?_⟩
 have e2:(V.aV lab (.slice none 0 0)).σ lab=some (.slice none 0 0):=by simp [aY.aV]
 have pC:aE (V.aV lab (.slice none 0 0)) (cs.set i (.buf lab))=some xs:=by
  have gE:aE (V.aV lab (.slice none 0 0)) cs=some xs:=cZ bN.1 lV
  obtain ⟨x,nJ,Ho⟩:=dX gE i _ hi
  simp only [den,aU] at Ho
  exact oU (by rw [<- Ho];simp [den,e2]) cs xs i gE nJ
 refine h.step (N:=fun k=>if k=lab then some (.fT sz 0 el) else if k=lb then some (.own (cs.set i (.buf lab)) ty) else none) bN.1 (fun k C hk=>?_) (fun k C hk=>?_) (fun k C p hk hp=>?_) (fun k C k' C' p zF hk gW ho hp=>?_) (Nat.le_refl _) (fun _ _ _=>rfl) rfl rfl rfl
 .simp only [eI,bJ.eG,fO,List.cons_append,List.nil_append] at hk
  by_cases k2:lb=k
  .subst k2
   rw [aI] at hk
   left
   simp only [if_neg (show ¬ lb=lab by omega),if_true]
   simpa using hk
  .rw [aD k2] at hk
   by_cases k3:lab=k
   .subst k3;rw [aI] at hk;left;simpa using hk
   .rw [aD k3] at hk
    right
    simp only [look] at hk
    exact ⟨by rw [if_neg (fun q=>k3 q.symm),if_neg (fun q=>k2 q.symm)],hk⟩
 .by_cases k1:k=lab
  .rw [if_pos k1] at hk
   cases hk
   subst k1
   exact ⟨[],rfl,_,[],e2,⟨by simp,.inl ⟨rfl,rfl⟩⟩,fun q hq=>by cases hq⟩
  .rw [if_neg k1] at hk
   by_cases k3:k=lb
   .rw [if_pos k3] at hk
    cases hk
    subst k3
    exact ⟨xs,pC,b2,bN.1.1 _ _ mO,SG⟩
   .rw [if_neg k3] at hk;cases hk
 .by_cases k1:k=lab
  .rw [if_pos k1] at hk
   cases hk
   subst k1
   simp [SB.aN,e2,Value.ownBlock] at hp
  .rw [if_neg k1] at hk
   by_cases k3:k=lb
   .rw [if_pos k3] at hk
    cases hk
    subst k3
    simp only [SB.aN,bN.1.1 _ _ mO,Option.map_some,aU] at hp
    subst hp
    right;left
    exact ⟨k,_,hb,rfl,by simp [SB.aN,mO],by simp [if_neg k1]⟩
   .rw [if_neg k3] at hk;cases hk
 .intro Pl
  by_cases k1:k=lab
  .rw [if_pos k1] at hk
   cases hk
   subst k1
   simp [SB.aN,e2,Value.ownBlock] at hp
  .by_cases k2:k'=lab
   .rw [if_pos k2] at gW
    cases gW
    subst k2
    simp [SB.aN,e2,Value.ownBlock] at Pl
   .rw [if_neg k1] at hk
    rw [if_neg k2] at gW
    by_cases k3:k=lb
    .by_cases k4:k'=lb
     .omega
     .rw [if_neg k4] at gW;cases gW
    .rw [if_neg k3] at hk;cases hk
theorem aC.aSf (h:aC w0 M V T w) (hf:V.fresh lab) (jY:∀ k,lab<=k->T k=none) {lb:Nat} {cs:List SV} {ty el:TypeId} {i:Nat}
 (hb:T lb=some (.own cs ty)) (hi:cs[i]?=some (.raw (.slice none 0 0))) (v:SV) :
 ∃ V',V.ext lab V'/\aC w0 M V' (eI T lab { val:=v,new:=[.eM [] el],wr:=[(lb,.own (cs.set i (.buf lab)) ty)] }) w:=by
 obtain ⟨xs,lV,b2,mO,SG⟩:=h.ok lb _ hb
 have UG:lb<lab:=Nat.lt_of_not_le fun q=>by rw [jY lb q] at hb;cases hb
 have bN:=aY.bS hf lab (Nat.le_refl _) (by omega) (.slice none 0 0)
 refine ⟨_,bN,?_⟩
 have e2:(V.aV lab (.slice none 0 0)).σ lab=some (.slice none 0 0):=by simp [aY.aV]
 have pC:aE (V.aV lab (.slice none 0 0)) (cs.set i (.buf lab))=some xs:=by
  have gE:aE (V.aV lab (.slice none 0 0)) cs=some xs:=cZ bN.1 lV
  obtain ⟨x,nJ,Ho⟩:=dX gE i _ hi
  simp only [den,aU] at Ho
  exact oU (by rw [<- Ho];simp [den,e2]) cs xs i gE nJ
 refine h.step (N:=fun k=>if k=lab then some (.eM [] el) else if k=lb then some (.own (cs.set i (.buf lab)) ty) else none) bN.1 (fun k C hk=>?_) (fun k C hk=>?_) (fun k C p hk hp=>?_) (fun k C k' C' p zF hk gW ho hp=>?_) (Nat.le_refl _) (fun _ _ _=>rfl) rfl rfl rfl
 .simp only [eI,bJ.eG,fO,List.cons_append,List.nil_append] at hk
  by_cases k2:lb=k
  .subst k2
   rw [aI] at hk
   left
   simp only [if_neg (show ¬ lb=lab by omega),if_true]
   simpa using hk
  .rw [aD k2] at hk
   by_cases k3:lab=k
   .subst k3;rw [aI] at hk;left;simpa using hk
   .rw [aD k3] at hk
    right
    simp only [look] at hk
    exact ⟨by rw [if_neg (fun q=>k3 q.symm),if_neg (fun q=>k2 q.symm)],hk⟩
 .by_cases k1:k=lab
  .rw [if_pos k1] at hk
   cases hk
   subst k1
   exact ⟨[],rfl,_,e2,⟨by simp,.inl ⟨rfl,rfl⟩⟩⟩
  .rw [if_neg k1] at hk
   by_cases k3:k=lb
   .rw [if_pos k3] at hk
    cases hk
    subst k3
    exact ⟨xs,pC,b2,bN.1.1 _ _ mO,SG⟩
   .rw [if_neg k3] at hk;cases hk
 .by_cases k1:k=lab
  .rw [if_pos k1] at hk
   cases hk
   subst k1
   simp [SB.aN,e2,Value.ownBlock] at hp
  .rw [if_neg k1] at hk
   by_cases k3:k=lb
   .rw [if_pos k3] at hk
    cases hk
    subst k3
    simp only [SB.aN,bN.1.1 _ _ mO,Option.map_some,aU] at hp
    subst hp
    right;left
    exact ⟨k,_,hb,rfl,by simp [SB.aN,mO],by simp [if_neg k1]⟩
   .rw [if_neg k3] at hk;cases hk
 .intro Pl
  by_cases k1:k=lab
  .rw [if_pos k1] at hk
   cases hk
   subst k1
   simp [SB.aN,e2,Value.ownBlock] at hp
  .by_cases k2:k'=lab
   .rw [if_pos k2] at gW
    cases gW
    subst k2
    simp [SB.aN,e2,Value.ownBlock] at Pl
   .rw [if_neg k1] at hk
    rw [if_neg k2] at gW
    by_cases k3:k=lb
    .by_cases k4:k'=lb
     .omega
     .rw [if_neg k4] at gW;cases gW
    .rw [if_neg k3] at hk;cases hk
theorem aC.aXd (hT:aC w0 M V T w) (hf:V.fresh lab) {sz:Nat} {el:TypeId} {x:Value} (hx:den V (.raw (.slice none 0 0))=some x) :
 ∃ V',V.ext lab V'/\den V' (.buf lab)=some x/\aC w0 M V' (eI T lab { val:=.buf lab,new:=[.fT sz 0 el] }) w:=by
 simp only [den,aU] at hx
 subst hx
 have bN:=aY.bS hf lab (Nat.le_refl _) (by omega) (.slice none 0 0)
 have e2:(V.aV lab (.slice none 0 0)).σ lab=some (.slice none 0 0):=by simp [aY.aV]
 refine ⟨V.aV lab (.slice none 0 0),bN,by simp [den,e2],?_⟩
 refine hT.step (N:=fun m=>if m=lab then some (.fT sz 0 el) else none) bN.1 (fun m C hm=>?_) (fun m C hm=>?_) (fun m C q hm hq=>?_) (fun m C m' C' q dD hm jX sR hq=>?_) (Nat.le_refl _) (fun _ _ _=>rfl) rfl rfl rfl
 .unfold eI bJ.eG at hm
  simp only [fO,List.nil_append,look] at hm
  by_cases e:m=lab
  .subst e
   left
   simpa using hm
  .right
   refine ⟨if_neg e,?_⟩
   have:Nat.beq lab m=false:=by
    cases lA:Nat.beq lab m with
    | false=>rfl
    | true=>exact absurd (cH lA).symm e
   simpa [this] using hm
 .split at hm
  .rename_i e
   subst e
   cases hm
   exact ⟨[],rfl,_,[],e2,⟨by simp,.inl ⟨rfl,rfl⟩⟩,fun q hq=>by cases hq⟩
  .cases hm
 .split at hm
  .rename_i e
   subst e
   cases hm
   simp [SB.aN,e2,Value.ownBlock] at hq
  .cases hm
 .split at hm
  .rename_i e
   subst e
   cases hm
   simp [SB.aN,e2,Value.ownBlock] at hq
  .cases hm
theorem aC.KG (hT:aC w0 M V T w) (hf:V.fresh lab) {n:Nat} {x:Value} {d:List Int} (hr:iF n x=some x) (hF:dL w0 M x d) :
 ∃ V',V.ext lab V'/\den V' (.eV lab n)=some x/\aC w0 M V' (eI T lab { val:=.eV lab n,new:=[.gQ .u8 d] }) w:=by
 have bN:=aY.bS hf lab (Nat.le_refl _) (by omega) x
 refine ⟨V.aV lab x,bN,by simp [den,aY.aV,hr],?_⟩
 refine hT.step (N:=fun m=>if m=lab then some (.gQ .u8 d) else none) bN.1 (fun m C hm=>?_) (fun m C hm=>?_) (fun m C q hm hq=>?_) (fun m C m' C' q dD hm jX sR _=>?_) (Nat.le_refl _) (fun _ _ _=>rfl) rfl rfl rfl
 .unfold eI bJ.eG at hm
  simp only [fO,List.nil_append,look] at hm
  by_cases e:m=lab
  .subst e
   left
   simpa using hm
  .right
   refine ⟨if_neg e,?_⟩
   have:Nat.beq lab m=false:=by
    cases lA:Nat.beq lab m with
    | false=>rfl
    | true=>exact absurd (cH lA).symm e
   simpa [this] using hm
 .split at hm
  .rename_i e
   subst e
   cases hm
   exact ⟨_,rfl,x,by simp [aY.aV],(hF.gG (M':=fun _=>False) hT.frame fun _ h=>h.elim).1⟩
  .cases hm
 .split at hm
  .rename_i e
   subst e
   cases hm
   refine .inr (.inr ⟨rfl,fun l2 B2 hn2 sJ sR lA=>?_⟩)
   simp only [SB.aN,aY.aV,if_pos,Option.bind_some] at hq
   have h1:=hF.2 q hq
   rcases hT.perm l2 B2 q sJ sR lA with h2 | h2
   .omega
   .exact h1.2 h2
  .cases hm
 .split at hm
  .cases hm;cases sR
  .cases hm
theorem aC.aNq (hT:aC w0 M V T w) (hf:V.fresh lab) {n:Nat} {x:Value} {d:List Int} (hr:iF n x=some x) (hF:dL w0 M x d) :
 ∃ V',V.ext lab V'/\den V' (.eV lab n)=some x/\aC w0 M V' (eI T lab { val:=.eV lab n,new:=[.nH d] }) w:=by
 have bN:=aY.bS hf lab (Nat.le_refl _) (by omega) x
 refine ⟨V.aV lab x,bN,by simp [den,aY.aV,hr],?_⟩
 refine hT.step (N:=fun m=>if m=lab then some (.nH d) else none) bN.1 (fun m C hm=>?_) (fun m C hm=>?_) (fun m C q hm hq=>?_) (fun m C m' C' q dD hm jX sR _=>?_) (Nat.le_refl _) (fun _ _ _=>rfl) rfl rfl rfl (fun m C hm=>?_)
 .unfold eI bJ.eG at hm
  simp only [fO,List.nil_append,look] at hm
  by_cases e:m=lab
  .subst e
   left
   simpa using hm
  .right
   refine ⟨if_neg e,?_⟩
   have:Nat.beq lab m=false:=by
    cases lA:Nat.beq lab m with
    | false=>rfl
    | true=>exact absurd (cH lA).symm e
   simpa [this] using hm
 .split at hm
  .cases hm;exact ⟨[],rfl,trivial⟩
  .cases hm
 .split at hm
  .cases hm;cases hq
  .cases hm
 .split at hm
  .cases hm;cases sR
  .cases hm
 .split at hm
  .rename_i e
   subst e
   cases hm
   exact ⟨_,by simp [aY.aV],hF⟩
  .cases hm
theorem aC.aSd (hT:aC w0 M V T w) (hf:V.fresh lab) {el:TypeId} {x:Value} (hx:den V (.raw (.slice none 0 0))=some x) :
 ∃ V',V.ext lab V'/\den V' (.buf lab)=some x/\aC w0 M V' (eI T lab { val:=.buf lab,new:=[.eM [] el] }) w:=by
 simp only [den,aU] at hx
 subst hx
 have bN:=aY.bS hf lab (Nat.le_refl _) (by omega) (.slice none 0 0)
 refine ⟨V.aV lab (.slice none 0 0),bN,by simp [den,aY.aV],?_⟩
 refine hT.step (N:=fun m=>if m=lab then some (.eM [] el) else none) bN.1 (fun m C hm=>?_) (fun m C hm=>?_) (fun m C q hm hq=>?_) (fun m C m' C' q dD hm jX sR _=>?_) (Nat.le_refl _) (fun _ _ _=>rfl) rfl rfl rfl (fun m C hm=>?_)
 .unfold eI bJ.eG at hm
  simp only [fO,List.nil_append] at hm
  by_cases e:m=lab
  .subst e
   left
   rw [aI] at hm
   rw [if_pos rfl];exact hm
  .right
   rw [aD (fun q=>e q.symm)] at hm
   exact ⟨if_neg e,hm⟩
 .split at hm
  .rename_i e
   subst e
   cases hm
   exact ⟨[],rfl,.slice none 0 0,by simp [aY.aV],World.ownsRow_nil w 0 el 2⟩
  .cases hm
 .split at hm
  .rename_i e
   subst e
   cases hm
   simp [SB.aN,aY.aV,Value.ownBlock] at hq
  .cases hm
 .split at hm
  .rename_i e
   split at jX
   .rename_i e'
    exact absurd (e.trans e'.symm) dD
   .cases jX
  .cases hm
 .split at hm
  .cases hm;trivial
  .cases hm
theorem aC.aSl (hT:aC w0 M V T w) (hf:V.fresh lab) {l l2 i:Nat} {cs:List SV} {ty el:TypeId} {xs:List (Int × Int)} (hl:T l=some (.own cs ty)) (hc:cs[i]?=some (.buf l2)) (sJ:T l2=some (.eM xs el)) (cI:l<lab) (bCi:l2<lab) (v:SV) :
 ∃ V',V.ext lab V'/\aC w0 M V' (eI T lab { val:=v,new:=[.eM xs el],wr:=[(l,.own (cs.set i (.buf lab)) ty),(l2,.gone)] }) w:=by
 obtain ⟨us,hu,b,hβ,hh⟩:=hT.ok l _ hl
 obtain ⟨ps,hps,u,hσ,bK⟩:=hT.ok l2 _ sJ
 cases hps
 have hu:aE V cs=some us:=hu
 have dD:l≠l2:=fun e=>by subst e;rw [hl] at sJ;cases sJ
 have bN:=aY.bS hf lab (Nat.le_refl _) (by omega) u
 have e1:(V.aV lab u).σ lab=some u:=by simp [aY.aV]
 have pC:aE (V.aV lab u) (cs.set i (.buf lab))=some us:=by
  have gE:aE (V.aV lab u) cs=some us:=cZ bN.1 hu
  obtain ⟨x,nJ,Ho⟩:=dX gE i _ hc
  simp only [den,bN.1.2 _ _ hσ,aU] at Ho
  exact oU (by rw [<- Ho];simp [den,e1]) cs us i gE nJ
 refine ⟨_,bN,?_⟩
 refine hT.step (N:=fun m=>if m=lab then some (.eM xs el) else if m=l then some (.own (cs.set i (.buf lab)) ty) else if m=l2 then some .gone else none) bN.1 (fun m C hm=>?_) (fun m C hm=>?_) (fun m C q hm hq=>?_) (fun m C m' C' q zF hm jX sR hq=>?_) (Nat.le_refl _) (fun _ _ _=>rfl) rfl rfl rfl (fun m C hm=>?_)
 .unfold eI bJ.eG at hm
  simp only [fO,List.cons_append,List.nil_append] at hm
  by_cases k1:m=l
  .subst k1
   left
   rw [aI] at hm
   rw [if_neg (by omega),if_pos rfl];exact hm
  .rw [aD (fun q=>k1 q.symm)] at hm
   by_cases k2:m=l2
   .subst k2
    left
    rw [aI] at hm
    rw [if_neg (by omega),if_neg k1,if_pos rfl];exact hm
   .rw [aD (fun q=>k2 q.symm)] at hm
    by_cases k3:m=lab
    .subst k3
     left
     rw [aI] at hm
     rw [if_pos rfl];exact hm
    .right
     rw [aD (fun q=>k3 q.symm)] at hm
     exact ⟨by rw [if_neg k3,if_neg k1,if_neg k2],hm⟩
 .split at hm
  .rename_i e
   subst e
   cases hm
   exact ⟨_,rfl,u,e1,bK⟩
  .split at hm
   .rename_i e
    subst e
    cases hm
    exact ⟨us,pC,b,bN.1.1 _ _ hβ,hh⟩
   .split at hm
    .cases hm;exact ⟨[],rfl,trivial⟩
    .cases hm
 .right;left
  split at hm
  .rename_i e
   subst e
   cases hm
   simp only [SB.aN,e1,Option.bind_some] at hq
   exact ⟨l2,_,sJ,rfl,by simp [SB.aN,hσ,hq],by rw [if_neg (by omega),if_neg (fun q=>dD q.symm),if_pos rfl];simp⟩
  .split at hm
   .rename_i e0 e
    subst e
    cases hm
    simp only [SB.aN,bN.1.1 _ _ hβ,Option.map_some,aU] at hq
    exact ⟨m,_,hl,rfl,by simp [SB.aN,hβ,hq],by rw [if_neg e0,if_pos rfl];simp⟩
   .split at hm
    .cases hm;cases hq
    .cases hm
 .intro hq'
  have k1:∀ q,(SB.eM xs el).aN (V.aV lab u) lab=some q->(SB.eM xs el).aN V l2=some q:=fun q h=>by
   simp only [SB.aN,e1,Option.bind_some] at h;simp [SB.aN,hσ,h]
  have k2:∀ q,(SB.own (cs.set i (.buf lab)) ty).aN (V.aV lab u) l=some q->(SB.own cs ty).aN V l=some q:=fun q h=>by
   simp only [SB.aN,bN.1.1 _ _ hβ,Option.map_some,aU] at h;simp [SB.aN,hβ,h]
  split at hm
  .rename_i e
   subst e
   cases hm
   split at jX
   .rename_i e';exact zF e'.symm
   .split at jX
    .rename_i e';subst e';cases jX
     exact hT.jN l2 _ m' _ q (fun e=>dD e.symm) sJ hl rfl (k1 q hq) (k2 q hq')
    .split at jX
     .cases jX;cases hq'
     .cases jX
  .split at hm
   .rename_i e0 e
    subst e
    cases hm
    split at jX
    .rename_i e';subst e';cases jX
     exact hT.jN m _ l2 _ q dD hl sJ rfl (k2 q hq) (k1 q hq')
    .split at jX
     .rename_i e';exact zF e'.symm
     .split at jX
      .cases jX;cases hq'
      .cases jX
   .split at hm
    .cases hm;cases sR
    .cases hm
 .split at hm
  .cases hm;trivial
  .split at hm
   .cases hm;trivial
   .split at hm
    .cases hm;trivial
    .cases hm
theorem aC.aSe (hT:aC w0 M V T w) (hf:V.fresh lab) {el:TypeId} {x:Value} (hx:den V (.raw (.slice none 0 0))=some x) :
 ∃ V',V.ext lab V'/\den V' (.sP lab 0)=some x/\aC w0 M V' (eI T lab { val:=.sP lab 0,new:=[.fI [] el] }) w:=by
 simp only [den,aU] at hx
 subst hx
 have bN:=aY.bS hf lab (Nat.le_refl _) (by omega) (.tuple [.slice none 0 0].toArray)
 refine ⟨V.aV lab (.tuple [.slice none 0 0].toArray),bN,by simp [den,aY.aV,zA,iF],?_⟩
 refine hT.step (N:=fun m=>if m=lab then some (.fI [] el) else none) bN.1 (fun m C hm=>?_) (fun m C hm=>?_) (fun m C q hm hq=>?_) (fun m C m' C' q dD hm jX sR _=>?_) (Nat.le_refl _) (fun _ _ _=>rfl) rfl rfl rfl (fun m C hm=>?_)
 .unfold eI bJ.eG at hm
  simp only [fO,List.nil_append,look] at hm
  by_cases e:m=lab
  .subst e
   left
   simpa using hm
  .right
   refine ⟨if_neg e,?_⟩
   have:Nat.beq lab m=false:=by
    cases lA:Nat.beq lab m with
    | false=>rfl
    | true=>exact absurd (cH lA).symm e
   simpa [this] using hm
 .split at hm
  .rename_i e
   subst e
   cases hm
   exact ⟨[],rfl,.slice none 0 0,[],by simp [aY.aV],World.ownsRow_nil w 0 el 1⟩
  .cases hm
 .split at hm
  .rename_i e
   subst e
   cases hm
   simp [SB.aN,aY.aV,sZ,Value.ownBlock] at hq
  .cases hm
 .split at hm
  .rename_i e
   split at jX
   .rename_i e'
    exact absurd (e.trans e'.symm) dD
   .cases jX
  .cases hm
 .split at hm
  .rename_i e
   subst e
   cases hm
   exact ⟨.slice none 0 0,[],by simp [aY.aV],rfl,fun i u d hu=>by simp at hu⟩
  .cases hm
end
inductive Cl where
 | cell (t i m:Nat)
 | tmp (t m:Nat)
 | buf (t:Nat) (k:IntKind)
 | nil (t i:Nat) (k:IntKind) (el:TypeId)
 | ali (t:Nat)
 | alf (t:Nat)
 | alo (t:Nat)
 | aFw (t:Nat) (el:TypeId)
 | aFt (t i sz:Nat) (el:TypeId)
 | aFu (t sz:Nat) (el:TypeId)
 | aFv (t:Nat) (el:TypeId)
 | mvb (l i:Nat)
 | GB (t i:Nat) (el:TypeId)
noncomputable def dP (F0 N:Nat) (B:aZ) (c:Cl) (s:St):Option St:=match c with
 | .cell t i m=>match s.g.get t with
   | some (.ptr lb true 0)=>match s.T B lb with
     | some (.own cs ty)=>match cs[i]? with
       | some (.aG l true 0 n cap)=>match s.T B l with
         | some (.own cells el)=>match Nat.beq cells.length cap&&(Nat.ble m cap&&(!Nat.beq l lb&&Nat.ble cap 1000000)) with
           | true=>s.step F0 N none { val:=.raw undef,new:=[.row 1 (cells.take m) el],wr:=[(l,.gone),(lb,.own (cs.set i (.cP s.nx 0 n 0)) ty)] } s.nx (s.nx+8)
           | false=>none
         | _=>none
       | some (.raw (.slice none 0 0))=>some s
       | _=>none
     | _=>none
   | _=>none
 | .tmp t m=>match s.g.get t with
   | some (.aG l true 0 n cap)=>match s.T B l with
     | some (.own cells el)=>match Nat.beq cells.length cap&&(Nat.ble m cap&&Nat.ble cap 1000000) with
       | true=>s.step F0 N (some t) { val:=.cP s.nx 0 n 0,new:=[.row 1 (cells.take m) el],wr:=[(l,.gone)] } s.nx (s.nx+8)
       | false=>none
     | _=>none
   | _=>none
 | .buf t k=>match s.g.get t with
   | some (.aG l true 0 n cap)=>match s.T B l with
     | some (.own cells el)=>match Nat.beq cells.length cap&&(Nat.ble n cap&&(Nat.ble cap 1000000&&(cX k cells).isSome)),cX k (cells.take n) with
       | true,some ns=>s.step F0 N (some t) { val:=.buf s.nx,new:=[.cT k ns el],wr:=[(l,.gone)] } s.nx (s.nx+8)
       | _,_=>none
     | _=>none
   | _=>none
 | .nil t i k el=>match s.g.get t with
   | some (.ptr lb true 0)=>match s.T B lb with
     | some (.own cs ty)=>match cs[i]? with
       | some (.raw (.slice none 0 0))=>s.step F0 N none { val:=.raw undef,new:=[.cT k [] el],wr:=[(lb,.own (cs.set i (.buf s.nx)) ty)] } s.nx (s.nx+8)
       | some (.buf _)=>some s
       | _=>none
     | _=>none
   | _=>none
 | .ali t=>match s.g.get t with
   | some (.eV l n)=>match s.T B l with
     | some (.gQ k xs)=>s.step F0 N (some t) { val:=.eV s.nx n,new:=[.gQ k xs] } s.nx (s.nx+8)
     | _=>none
   | _=>none
 | .alf t=>match s.g.get t with
   | some (.wT l i n)=>match s.T B l with
     | some b=>match uK b with
       | some ds=>s.step F0 N (some t) { val:=.eV s.nx n,new:=[.gQ .u8 (ds.getD i [])] } s.nx (s.nx+8)
       | none=>none
     | none=>none
   | some (.eV l n)=>match s.T B l with
     | some (.nH d)=>s.step F0 N (some t) { val:=.eV s.nx n,new:=[.gQ .u8 d] } s.nx (s.nx+8)
     | _=>none
   | _=>none
 | .alo t=>match s.g.get t with
   | some (.eV l n)=>match s.T B l with
     | some (.nH d)=>s.step F0 N (some t) { val:=.eV s.nx n,new:=[.nH d] } s.nx (s.nx+8)
     | _=>none
   | _=>none
 | .aFw t el=>match s.g.get t with
   | some (.raw (.slice none 0 0))=>s.step F0 N (some t) { val:=.sP s.nx 0,new:=[.fI [] el] } s.nx (s.nx+8)
   | some (.sP _ _)=>some s
   | _=>none
 | .aFt t i sz el=>match s.g.get t with
   | some (.ptr lb true 0)=>match s.T B lb with
     | some (.own cs ty)=>match cs[i]? with
       | some (.raw (.slice none 0 0))=>s.step F0 N none { val:=.raw undef,new:=[.fT sz 0 el],wr:=[(lb,.own (cs.set i (.buf s.nx)) ty)] } s.nx (s.nx+8)
       | some (.buf _)=>some s
       | _=>none
     | _=>none
   | _=>none
 | .aFu t sz el=>match s.g.get t with
   | some (.raw (.slice none 0 0))=>s.step F0 N (some t) { val:=.buf s.nx,new:=[.fT sz 0 el] } s.nx (s.nx+8)
   | some (.buf _)=>some s
   | _=>none
 | .aFv t el=>match s.g.get t with
   | some (.raw (.slice none 0 0))=>s.step F0 N (some t) { val:=.buf s.nx,new:=[.eM [] el] } s.nx (s.nx+8)
   | some (.buf _)=>some s
   | _=>none
 | .mvb l i=>match s.T B l with
   | some (.own cs ty)=>match cs[i]? with
     | some (.buf l2)=>match s.T B l2,Nat.blt l s.nx&&Nat.blt l2 s.nx with
       | some (.eM xs el),true=>s.step F0 N none { val:=.raw undef,new:=[.eM xs el],wr:=[(l,.own (cs.set i (.buf s.nx)) ty),(l2,.gone)] } s.nx (s.nx+8)
       | _,_=>none
     | _=>none
   | _=>none
 | .GB t i el=>match s.g.get t with
   | some (.ptr lb true 0)=>match s.T B lb with
     | some (.own cs ty)=>match cs[i]? with
       | some (.raw (.slice none 0 0))=>s.step F0 N none { val:=.raw undef,new:=[.eM [] el],wr:=[(lb,.own (cs.set i (.buf s.nx)) ty)] } s.nx (s.nx+8)
       | some (.buf _)=>some s
       | _=>none
     | _=>none
   | _=>none
noncomputable def kH (F0 N:Nat) (B:aZ):List Cl->St->Option St
 | [],s=>some s
 | c::r,s=>match dP F0 N B c s with
   | some s=>kH F0 N B r s
   | none=>none
section
variable {P:Program} {Γ:Env} {w0:World} {M:Nat->Prop} {B:aZ} {N F0:Nat} {V0:aY}
theorem Inv.dP {c:Cl} {s s':St} (h:dP F0 N B c s=some s') {V:aY} {a:Act} {w:World} (hi:Inv P Γ w0 M B N F0 V0 s V a w):(∃ V',Inv P Γ w0 M B N F0 V0 s' V' a w)/\s'.ob=s.ob:=by
 cases c with
 | cell t i m=>
   simp only [Sx.dP] at h
   split at h
   case h_2=>cases h
   rename_i lb _
   split at h
   case h_2=>cases h
   rename_i cs ty hb
   split at h
   case h_3=>cases h
   .rename_i l n cap hc
    split at h
    case h_2=>cases h
    rename_i cells el hl
    split at h
    case h_2=>cases h
    rename_i gY
    simp only [Bool.and_eq_true,Bool.not_eq_true'] at gY
    obtain ⟨k1,k2,k3,k4⟩:=gY
    obtain ⟨V',hV,hT⟩:=aC.close hi.eG hi.top.fresh hi.hi hl (cH k1) (Nat.le_of_ble_eq_true k2) (Nat.le_of_ble_eq_true k4) hb hc (fun e=>by subst e;rw [Nat.beq_refl] at k3;cases k3) (.raw undef)
    refine ⟨⟨V',?_⟩,(St.cQ B h).2.2.1⟩
    exact hi.step (x:=undef) h (Nat.le_refl _) (Nat.le_refl _) hV (fun h=>by cases h) hT
   .cases h;exact ⟨⟨V,hi⟩,rfl⟩
 | tmp t m=>
   simp only [Sx.dP] at h
   split at h
   case h_2=>cases h
   rename_i l n cap ht
   split at h
   case h_2=>cases h
   rename_i cells el hl
   split at h
   case h_2=>cases h
   rename_i gY
   simp only [Bool.and_eq_true] at gY
   obtain ⟨k1,k2,k4⟩:=gY
   obtain ⟨V',hV,hx,hT⟩:=aC.aNg hi.eG hi.top.fresh hi.hi hl (cH k1) (Nat.le_of_ble_eq_true k2) (Nat.le_of_ble_eq_true k4) (hi.tmp t _ ht)
   have:=hi.step (x:=a.eval (.tmp t)) h (Nat.le_refl _) (Nat.le_refl _) hV (fun _=>hx) hT
   rw [Act.iM] at this
   exact ⟨⟨V',this⟩,(St.cQ B h).2.2.1⟩
 | buf t k=>
   simp only [Sx.dP] at h
   split at h
   case h_2=>cases h
   rename_i l n cap ht
   split at h
   case h_2=>cases h
   rename_i cells el hl
   split at h
   case h_2=>cases h
   rename_i ns gY hk
   simp only [Bool.and_eq_true] at gY
   obtain ⟨k1,k2,k4,k5⟩:=gY
   obtain ⟨V',hV,hx,hT⟩:=aC.aNh hi.eG hi.top.fresh hi.hi hl (cH k1) (Nat.le_of_ble_eq_true k2) (Nat.le_of_ble_eq_true k4) hk k5 (hi.tmp t _ ht)
   have:=hi.step (x:=a.eval (.tmp t)) h (Nat.le_refl _) (Nat.le_refl _) hV (fun _=>hx) hT
   rw [Act.iM] at this
   exact ⟨⟨V',this⟩,(St.cQ B h).2.2.1⟩
 | nil t i k el=>
   simp only [Sx.dP] at h
   split at h
   case h_2=>cases h
   rename_i lb _
   split at h
   case h_2=>cases h
   rename_i cs ty hb
   split at h
   case h_3=>cases h
   .rename_i hc
    obtain ⟨V',hV,hT⟩:=aC.aXe (k0:=k) (el:=el) hi.eG hi.top.fresh hi.hi hb hc (.raw undef)
    exact ⟨⟨V',hi.step (x:=undef) h (Nat.le_refl _) (Nat.le_refl _) hV (fun h=>by cases h) hT⟩,(St.cQ B h).2.2.1⟩
   .cases h;exact ⟨⟨V,hi⟩,rfl⟩
 | ali t=>
   simp only [Sx.dP] at h
   split at h
   case h_2=>cases h
   rename_i l n ht
   split at h
   case h_2=>cases h
   rename_i k xs hl
   obtain ⟨V',hV,hx,hT⟩:=aC.aNp hi.eG hi.top.fresh hl (hi.tmp t _ ht)
   have:=hi.step (x:=a.eval (.tmp t)) h (Nat.le_refl _) (Nat.le_refl _) hV (fun _=>hx) hT
   rw [Act.iM] at this
   exact ⟨⟨V',this⟩,(St.cQ B h).2.2.1⟩
 | alf t=>
   simp only [Sx.dP] at h
   split at h
   case h_3=>cases h
   .rename_i l i n ht
    split at h
    case h_2=>cases h
    rename_i b hb
    split at h
    case h_2=>cases h
    rename_i ds hd
    obtain ⟨_,_,_,_,hF,hr⟩:=Qr hi.eG (hi.tmp t _ ht) hb hd
    obtain ⟨V',hV,hx,hT⟩:=aC.KG hi.eG hi.top.fresh hr hF
    have:=hi.step (x:=a.eval (.tmp t)) h (Nat.le_refl _) (Nat.le_refl _) hV (fun _=>hx) hT
    rw [Act.iM] at this
    exact ⟨⟨V',this⟩,(St.cQ B h).2.2.1⟩
   .rename_i l n ht
    split at h
    case h_2=>cases h
    rename_i d hl
    obtain ⟨u,hσ,hF⟩:=hi.eG.sL l _ hl
    have hd:=hi.tmp t _ ht
    simp only [den,hσ,Option.bind_some] at hd
    have e:=(cY hd).1
    rw [e] at hd
    obtain ⟨V',hV,hx,hT⟩:=aC.KG hi.eG hi.top.fresh hd hF
    rw [<- e] at hx
    have:=hi.step (x:=a.eval (.tmp t)) h (Nat.le_refl _) (Nat.le_refl _) hV (fun _=>hx) hT
    rw [Act.iM] at this
    exact ⟨⟨V',this⟩,(St.cQ B h).2.2.1⟩
 | alo t=>
   simp only [Sx.dP] at h
   split at h
   case h_2=>cases h
   rename_i l n ht
   split at h
   case h_2=>cases h
   rename_i d hl
   obtain ⟨u,hσ,hF⟩:=hi.eG.sL l _ hl
   have hd:=hi.tmp t _ ht
   simp only [den,hσ,Option.bind_some] at hd
   have e:=(cY hd).1
   rw [e] at hd
   obtain ⟨V',hV,hx,hT⟩:=aC.aNq hi.eG hi.top.fresh hd hF
   rw [<- e] at hx
   have:=hi.step (x:=a.eval (.tmp t)) h (Nat.le_refl _) (Nat.le_refl _) hV (fun _=>hx) hT
   rw [Act.iM] at this
   exact ⟨⟨V',this⟩,(St.cQ B h).2.2.1⟩
 | aFw t el=>
   simp only [Sx.dP] at h
   split at h
   case h_3=>cases h
   .rename_i ht
    obtain ⟨V',hV,hx,hT⟩:=aC.aSe (el:=el) hi.eG hi.top.fresh (hi.tmp t _ ht)
    have:=hi.step (x:=a.eval (.tmp t)) h (Nat.le_refl _) (Nat.le_refl _) hV (fun _=>hx) hT
    rw [Act.iM] at this
    exact ⟨⟨V',this⟩,(St.cQ B h).2.2.1⟩
   .cases h;exact ⟨⟨V,hi⟩,rfl⟩
 | aFt t i sz el=>
   simp only [Sx.dP] at h
   split at h
   case h_2=>cases h
   rename_i lb _
   split at h
   case h_2=>cases h
   rename_i cs ty hb
   split at h
   case h_3=>cases h
   .rename_i hc
    obtain ⟨V',hV,hT⟩:=aC.aFx (sz:=sz) (el:=el) hi.eG hi.top.fresh hi.hi hb hc (.raw undef)
    exact ⟨⟨V',hi.step (x:=undef) h (Nat.le_refl _) (Nat.le_refl _) hV (fun h=>by cases h) hT⟩,(St.cQ B h).2.2.1⟩
   .cases h;exact ⟨⟨V,hi⟩,rfl⟩
 | aFu t sz el=>
   simp only [Sx.dP] at h
   split at h
   case h_3=>cases h
   .rename_i ht
    obtain ⟨V',hV,hx,hT⟩:=aC.aXd (sz:=sz) (el:=el) hi.eG hi.top.fresh (hi.tmp t _ ht)
    have:=hi.step (x:=a.eval (.tmp t)) h (Nat.le_refl _) (Nat.le_refl _) hV (fun _=>hx) hT
    rw [Act.iM] at this
    exact ⟨⟨V',this⟩,(St.cQ B h).2.2.1⟩
   .cases h;exact ⟨⟨V,hi⟩,rfl⟩
 | aFv t el=>
   simp only [Sx.dP] at h
   split at h
   case h_3=>cases h
   .rename_i ht
    obtain ⟨V',hV,hx,hT⟩:=aC.aSd (el:=el) hi.eG hi.top.fresh (hi.tmp t _ ht)
    have:=hi.step (x:=a.eval (.tmp t)) h (Nat.le_refl _) (Nat.le_refl _) hV (fun _=>hx) hT
    rw [Act.iM] at this
    exact ⟨⟨V',this⟩,(St.cQ B h).2.2.1⟩
   .cases h;exact ⟨⟨V,hi⟩,rfl⟩
 | mvb l i=>
   simp only [Sx.dP] at h
   split at h
   case h_2=>cases h
   rename_i cs ty hl
   split at h
   case h_2=>cases h
   rename_i l2 hc
   split at h
   case h_2=>cases h
   rename_i xs el sJ cI
   simp only [Bool.and_eq_true,Nat.blt_eq] at cI
   obtain ⟨V',hV,hT⟩:=aC.aSl hi.eG hi.top.fresh hl hc sJ cI.1 cI.2 (.raw undef)
   exact ⟨⟨V',hi.step (x:=undef) h (Nat.le_refl _) (Nat.le_refl _) hV (fun h=>by cases h) hT⟩,(St.cQ B h).2.2.1⟩
 | GB t i el=>
   simp only [Sx.dP] at h
   split at h
   case h_2=>cases h
   rename_i lb _
   split at h
   case h_2=>cases h
   rename_i cs ty hb
   split at h
   case h_3=>cases h
   .rename_i hc
    obtain ⟨V',hV,hT⟩:=aC.aSf (el:=el) hi.eG hi.top.fresh hi.hi hb hc (.raw undef)
    exact ⟨⟨V',hi.step (x:=undef) h (Nat.le_refl _) (Nat.le_refl _) hV (fun h=>by cases h) hT⟩,(St.cQ B h).2.2.1⟩
   .cases h;exact ⟨⟨V,hi⟩,rfl⟩
theorem Inv.kH:∀ {cl:List Cl} {s s':St},kH F0 N B cl s=some s'->∀ {V:aY} {a:Act} {w:World},Inv P Γ w0 M B N F0 V0 s V a w->(∃ V',Inv P Γ w0 M B N F0 V0 s' V' a w)
 | [],s,s',h,V,a,w,hi=>by simp only [Sx.kH,aU] at h;subst h;exact ⟨V,hi⟩
 | c::r,s,s',h,V,a,w,hi=>by
   simp only [Sx.kH] at h
   split at h
   .rename_i s1 h1
    obtain ⟨⟨V1,zR⟩,e⟩:=hi.dP h1
    exact Inv.kH h zR
   .cases h
theorem BT {c:Cl} {s s':St} (h:dP F0 N B c s=some s'):s'.ob=s.ob:=by
 cases c with
 | cell t i m=>
   simp only [Sx.dP] at h
   split at h
   case h_2=>cases h
   split at h
   case h_2=>cases h
   split at h
   case h_3=>cases h
   .split at h
    case h_2=>cases h
    split at h
    case h_2=>cases h
    exact (St.cQ B h).2.2.1
   .cases h;rfl
 | tmp t m=>
   simp only [Sx.dP] at h
   split at h
   case h_2=>cases h
   split at h
   case h_2=>cases h
   split at h
   case h_2=>cases h
   exact (St.cQ B h).2.2.1
 | buf t k=>
   simp only [Sx.dP] at h
   split at h
   case h_2=>cases h
   split at h
   case h_2=>cases h
   split at h
   case h_2=>cases h
   exact (St.cQ B h).2.2.1
 | nil t i k el=>
   simp only [Sx.dP] at h
   split at h
   case h_2=>cases h
   split at h
   case h_2=>cases h
   split at h
   case h_3=>cases h
   .exact (St.cQ B h).2.2.1
   .cases h;rfl
 | ali t=>
   simp only [Sx.dP] at h
   split at h
   case h_2=>cases h
   split at h
   case h_2=>cases h
   exact (St.cQ B h).2.2.1
 | alf t=>
   simp only [Sx.dP] at h
   split at h
   case h_3=>cases h
   .split at h
    case h_2=>cases h
    split at h
    case h_2=>cases h
    exact (St.cQ B h).2.2.1
   .split at h
    case h_2=>cases h
    exact (St.cQ B h).2.2.1
 | alo t=>
   simp only [Sx.dP] at h
   split at h
   case h_2=>cases h
   split at h
   case h_2=>cases h
   exact (St.cQ B h).2.2.1
 | aFw t el=>
   simp only [Sx.dP] at h
   split at h
   case h_3=>cases h
   .exact (St.cQ B h).2.2.1
   .cases h;rfl
 | aFt t i sz el=>
   simp only [Sx.dP] at h
   split at h
   case h_2=>cases h
   split at h
   case h_2=>cases h
   split at h
   case h_3=>cases h
   .exact (St.cQ B h).2.2.1
   .cases h;rfl
 | aFu t sz el=>
   simp only [Sx.dP] at h
   split at h
   case h_3=>cases h
   .exact (St.cQ B h).2.2.1
   .cases h;rfl
 | aFv t el=>
   simp only [Sx.dP] at h
   split at h
   case h_3=>cases h
   .exact (St.cQ B h).2.2.1
   .cases h;rfl
 | mvb l i=>
   simp only [Sx.dP] at h
   split at h
   case h_2=>cases h
   split at h
   case h_2=>cases h
   split at h
   case h_2=>cases h
   exact (St.cQ B h).2.2.1
 | GB t i el=>
   simp only [Sx.dP] at h
   split at h
   case h_2=>cases h
   split at h
   case h_2=>cases h
   split at h
   case h_3=>cases h
   .exact (St.cQ B h).2.2.1
   .cases h;rfl
theorem xZ:∀ {cl:List Cl} {s s':St},kH F0 N B cl s=some s'->s'.ob=s.ob
 | [],s,s',h=>by simp only [Sx.kH,aU] at h;subst h;rfl
 | c::r,s,s',h=>by
   simp only [Sx.kH] at h
   split at h
   .rename_i s1 h1
    rw [xZ h,BT h1]
   .cases h
noncomputable def sW (Γ:Env) (T:aZ) (lab F:Nat) (fn:Func) (cl:List Cl) (r:Option pU):Option bJ:=match r with
 | some r=>match r.cf,r.fr with
   | .at x,[]=>match kH F fn.ntmps (bH F T) cl r.st with
     | some s=>Li Γ T lab F fn x s
     | none=>none
   | _,_=>none
 | none=>none
theorem G.qR (aT:cA P Γ) (aX:cK P Γ) (jF:P.follows .mixedOrders=true) {T:aZ} {lab:Nat} {fn:Func} {e e':bJ} {cl:List Cl} {stops:List Nat} {lf n:Nat} {cf:Cf} {K:List Fr} {s:St} (hs:List Bool) {Q:Exit->Act->World->Prop}
 (H:∀ x s e',Li Γ T lab F0 fn x s=some e'->(∀ q∈e'.bM,q)->e'.val=e.val->e'.new=e.new->e'.wr=e.wr->G P Γ w0 M (bH F0 T) fn.ntmps F0 V0 (.at x) [] s Q)
 (h:sW Γ T lab F0 fn cl (gZ Γ (bH F0 T) F0 fn.ntmps stops lf n cf K (s.hint hs))=some e') (hp:∀ q∈e'.bM,q) (h1:e'.val=e.val) (h2:e'.new=e.new) (h3:e'.wr=e.wr) :
 G P Γ w0 M (bH F0 T) fn.ntmps F0 V0 cf K s Q:=by
 unfold sW at h
 split at h
 case h_2=>cases h
 rename_i r hr
 split at h
 case h_2=>cases h
 rename_i x hx hf
 split at h
 case h_2=>cases h
 rename_i s1 Ei
 have dR:G P Γ w0 M (bH F0 T) fn.ntmps F0 V0 cf K (s.hint hs) Q:=by
  refine G.run aT aX jF hr (fun q hq=>hp q (Xj h q (by rw [xZ Ei];exact hq))) ?_
  rw [hx,hf]
  intro V a w hi
  obtain ⟨V',fS⟩:=hi.kH Ei
  exact H x s1 e' h hp h1 h2 h3 V' a w fS
 intro V a w hi
 exact dR V a w (hi.hints s.ob hs)
noncomputable def fM (F0 N:Nat) (B:aZ) (cl:List Cl) (gs:List (Nat × SV)) (tb:List (Nat × SB)) (nx:Nat) (ws:List Nat) (df:List SV) (r:Option pU):Option (Cf × List Fr × List Prop):=match r with
 | some r=>match kH F0 N B cl r.st with
   | some s=>yT F0 B [] gs tb nx ws df (some ⟨r.cf,r.fr,s⟩)
   | none=>none
 | none=>none
theorem G.fM (aT:cA P Γ) (aX:cK P Γ) (jF:P.follows .mixedOrders=true) (hb:qF Γ B F0 V0) {stops:List Nat} {lf n:Nat} {cf CJ:Cf} {K K':List Fr} {s:St} (hs:List Bool) {cl:List Cl} {gs:List (Nat × SV)} {tb:List (Nat × SB)} {nx:Nat} {ws:List Nat} {df:List SV} {ps:List Prop} {Q:Exit->Act->World->Prop}
 (h:fM F0 N B cl gs tb nx ws df (gZ Γ B F0 N stops lf n cf K (s.hint hs))=some (CJ,K',ps)) (hp:∀ q∈ps,q) (hG:G P Γ w0 M B N F0 V0 CJ K' (cB gs tb nx ws df) Q):G P Γ w0 M B N F0 V0 cf K s Q:=by
 unfold Sx.fM at h
 split at h
 case h_2=>cases h
 rename_i r hr
 split at h
 case h_2=>cases h
 rename_i s1 h1
 have ob:=xZ h1
 have h0:Sx.yT F0 B [] gs tb nx ws df (gZ Γ B F0 N stops lf 0 r.cf r.fr (s1.hint s1.hs))=some (CJ,K',ps):=h
 have dR:G P Γ w0 M B N F0 V0 cf K (s.hint hs) Q:=by
  refine G.run aT aX jF hr (fun q hq=>?_) ?_
  .refine hp q ?_
   have hq:q∈s1.ob:=by rw [ob];exact hq
   unfold Sx.yT at h
   simp only at h
   unfold Sx.toN at h
   simp only [oN] at h
   unfold QP at h
   simp only at h
   split at h
   case h_2=>cases h
   split at h
   case h_2=>cases h
   cases h
   exact List.mem_append_left _ hq
  .intro V a w hi
   obtain ⟨V',fS⟩:=hi.kH h1
   exact G.yT aT aX jF hb s1.hs h0 hp hG V' a w fS
 intro V a w hi
 exact dR V a w (hi.hints s.ob hs)
theorem G.lE (aT:cA P Γ) (aX:cK P Γ) (jF:P.follows .mixedOrders=true) (hb:qF Γ B F0 V0) {stops:List Nat} {lf n:Nat} {cf:Cf} {K1 K:List Fr} {s:St} (hs:List Bool) {cl:List Cl} {gs:List (Nat × SV)} {tb:List (Nat × SB)} {nx:Nat} {ws:List Nat} {df:List SV} {ps:List Prop} {Q:Exit->Act->World->Prop} {S:Nat->St->Prop} {r:Nat}
 (h:Sx.fM F0 N B cl gs tb nx ws df (gZ Γ B F0 N stops lf n cf K1 (s.hint hs))=some (.at .normal,[],ps)) (hp:∀ q∈ps,q) (r':Nat) (cI:r'<r) (hS:S r' (cB gs tb nx ws df)) :
 G P Γ w0 M B N F0 V0 cf K1 s (Exit.then (fun a w=>∃ r',r'<r/\∃ s',S r' s'/\∃ V,Inv P Γ w0 M B N F0 V0 s' V a w) (KQ P K Q)):=
 G.fM aT aX jF hb hs h hp (G.again fun V _ _ hi=>⟨r',cI,_,hS,V,hi⟩)
end
theorem aF.bE {P:Program} {Γ:Env} {f:FuncId} {vs:List SV} {T:aZ} {lab F:Nat} {e:bJ} (h:aF P Γ f vs T lab F e) (l:Nat) (B:SB) (hT:T l=some B) (hl:l<lab) :
 aF P Γ f vs T lab F { e with wr:=e.wr++[(l,B)] }:=by
 intro w0 M V T2 w xs aL Ic hg hf hF hx o a K Q hK
 refine h w0 M V T2 w xs aL Ic hg hf hF hx o a K Q fun V' x w' h1 h2 h3=>hK V' x w' h1 h2 ?_
 have:eI T2 lab { e with wr:=e.wr++[(l,B)] }=eI T2 lab e:=by
  funext k
  simp only [eI,bJ.eG,bY,List.append_assoc]
  cases hk:look k e.wr with
  | some b=>rfl
  | none=>
    simp only
    by_cases e1:l=k
    .subst e1
     rw [aI]
     simp only
     rw [fH,if_neg (by omega)]
     exact (aL l B hT).symm
    .rw [aD e1]
     simp only [look]
 rw [this]
 exact h3
section
variable {w0 w:World} {M:Nat->Prop} {V:aY} {T:aZ} {lab:Nat}
theorem xY (V:aY) (k:IntKind):∀ xs:List Int,aE V (xs.map (SV.int false k))=some (xs.map (Value.int k))
 | []=>rfl
 | x::xs=>by simp [aE,den,xY V k xs]
theorem aC.opened (h:aC w0 M V T w) (hf:V.fresh lab) (jY:∀ k,lab<=k->T k=none) {l:Nat} {k:IntKind} {xs:List Int} {el:TypeId} (hl:T l=some (.cT k xs el)) (Er:0<xs.length) {lb:Nat} {cs:List SV} {ty:TypeId} {i:Nat}
 (hb:T lb=some (.own cs ty)) (hi:cs[i]?=some (.buf l)) (dD:l≠lb) (v:SV) :
 ∃ V',V.ext lab V'/\aC w0 M V' (eI T lab { val:=v,new:=[.row 1 (xs.map (SV.int false k)) el],wr:=[(l,.gone),(lb,.own (cs.set i (.cP lab 0 xs.length 0)) ty)] }) w:=by
 obtain ⟨us,pA,u,hσ,bK⟩:=h.ok l _ hl
 obtain ⟨ys,qK,b2,mO,SG⟩:=h.ok lb _ hb
 cases pA
 rcases bK.1.2 with ⟨_,h0⟩ | ⟨b,cap,cur,rfl,_,hh,hle,qC,lW,cR⟩
 .omega
 have cI:l<lab:=Nat.lt_of_not_le fun q=>by rw [jY l q] at hl;cases hl
 have UG:lb<lab:=Nat.lt_of_not_le fun q=>by rw [jY lb q] at hb;cases hb
 have bN:V.ext lab ((V.put lab (b,0)).aV lab (.int .i64 (cap:Nat))):=by
  have h1:=aY.jU hf lab (Nat.le_refl _) (by omega) (b,0)
  refine ⟨⟨fun k p hp=>h1.1.1 k p hp,fun k p hp=>?_⟩,fun k hk=>⟨(h1.2 k hk).1,?_⟩⟩
  .simp only [aY.aV]
   by_cases e:k=lab
   .subst e;rw [(hf k (Nat.le_refl _) (by omega)).2] at hp;cases hp
   .rw [if_neg e];exact hp
  .simp only [aY.aV]
   rw [if_neg (by omega)]
   rfl
 refine ⟨_,bN,?_⟩
 obtain ⟨V',Pa⟩:∃ V',V'=(V.put lab (b,0)).aV lab (.int .i64 (cap:Nat)):=⟨_,rfl⟩
 rw [<- Pa] at bN |-
 have e1:V'.β lab=some (b,0):=by rw [Pa];simp [aY.put,aY.aV]
 have e2:V'.σ lab=some (.int .i64 (cap:Nat)):=by rw [Pa];simp [aY.aV]
 have Uj:SB.aN V l (.cT k xs el)=some b:=by simp [SB.aN,hσ,Value.ownBlock]
 have DG:b≠b2:=by
  intro e
  exact h.jN l _ lb _ b dD hl hb rfl Uj (by simp [SB.aN,mO,e])
 have pC:aE V' (cs.set i (.cP lab 0 xs.length 0))=some ys:=by
  have gE:aE V' cs=some ys:=cZ bN.1 qK
  obtain ⟨x,nJ,Ho⟩:=dX gE i _ hi
  simp only [den,bN.1.2 _ _ hσ,aU] at Ho
  refine oU ?_ cs ys i gE nJ
  rw [<- Ho]
  simp [den,e1,e2,nP]
 refine h.step (N:=fun q=>if q=lab then some (.row 1 (xs.map (SV.int false k)) el) else if q=l then some .gone else if q=lb then some (.own (cs.set i (.cP lab 0 xs.length 0)) ty) else none) bN.1 (fun q C hk=>?_) (fun q C hk=>?_) (fun q C p hk hp=>?_) (fun q C q' C' p zF hk gW ho hp=>?_) (Nat.le_refl _) (fun _ _ _=>rfl) rfl rfl rfl
 .simp only [eI,bJ.eG,fO,List.cons_append,List.nil_append] at hk
  by_cases k1:l=q
  .subst k1
   rw [aI] at hk
   left
   simp only [if_neg (show ¬ l=lab by omega),if_true]
   simpa using hk
  .rw [aD k1] at hk
   by_cases k2:lb=q
   .subst k2
    rw [aI] at hk
    left
    simp only [if_neg (show ¬ lb=lab by omega),if_neg (fun q=>dD (Eq.symm q)),if_true]
    simpa using hk
   .rw [aD k2] at hk
    by_cases k3:lab=q
    .subst k3;rw [aI] at hk;left;simpa using hk
    .rw [aD k3] at hk
     right
     simp only [look] at hk
     exact ⟨by rw [if_neg (fun q=>k3 q.symm),if_neg (fun q=>k1 q.symm),if_neg (fun q=>k2 q.symm)],hk⟩
 .by_cases k1:q=lab
  .rw [if_pos k1] at hk
   cases hk
   subst k1
   refine ⟨xs.map (Value.int k),xY V' k xs,b,cap,cur,e1,e2,hh,qC,lW,⟨xs.length,by simp,hle⟩,?_⟩
   rw [List.length_map]
   rw [Nat.mul_one] at cR
   exact cR
  .rw [if_neg k1] at hk
   by_cases k2:q=l
   .rw [if_pos k2] at hk;cases hk;exact ⟨[],rfl,trivial⟩
   .rw [if_neg k2] at hk
    by_cases k3:q=lb
    .rw [if_pos k3] at hk
     cases hk
     subst k3
     exact ⟨ys,pC,b2,bN.1.1 _ _ mO,SG⟩
    .rw [if_neg k3] at hk;cases hk
 .by_cases k1:q=lab
  .rw [if_pos k1] at hk
   cases hk
   subst k1
   simp only [SB.aN,e1,Option.map_some,aU] at hp
   subst hp
   right;left
   exact ⟨l,_,hl,rfl,Uj,by simp [if_neg (show ¬ l=q by omega)]⟩
  .rw [if_neg k1] at hk
   by_cases k2:q=l
   .rw [if_pos k2] at hk;cases hk;cases hp
   .rw [if_neg k2] at hk
    by_cases k3:q=lb
    .rw [if_pos k3] at hk
     cases hk
     subst k3
     simp only [SB.aN,bN.1.1 _ _ mO,Option.map_some,aU] at hp
     subst hp
     right;left
     exact ⟨q,_,hb,rfl,by simp [SB.aN,mO],by simp [if_neg k1,if_neg k2]⟩
    .rw [if_neg k3] at hk;cases hk
 .have aN:∀ q C p,(if q=lab then some (SB.row 1 (xs.map (SV.int false k)) el) else if q=l then some .gone else if q=lb then some (.own (cs.set i (.cP lab 0 xs.length 0)) ty) else none)=some C->C.aN V' q=some p->(q=lab/\p=b)\/(q=lb/\p=b2):=by
   intro q C p hk hp
   by_cases k1:q=lab
   .rw [if_pos k1] at hk
    cases hk
    subst k1
    simp only [SB.aN,e1,Option.map_some,aU] at hp
    exact .inl ⟨rfl,hp.symm⟩
   .rw [if_neg k1] at hk
    by_cases k2:q=l
    .rw [if_pos k2] at hk;cases hk;cases hp
    .rw [if_neg k2] at hk
     by_cases k3:q=lb
     .rw [if_pos k3] at hk
      cases hk
      subst k3
      simp only [SB.aN,bN.1.1 _ _ mO,Option.map_some,aU] at hp
      exact .inr ⟨rfl,hp.symm⟩
     .rw [if_neg k3] at hk;cases hk
  intro Pl
  rcases aN q C p hk hp with ⟨r1,r2⟩ | ⟨r1,r2⟩ <;> rcases aN q' C' p gW Pl with ⟨r3,r4⟩ | ⟨r3,r4⟩
  .omega
  .exact DG (r2.symm.trans r4)
  .exact DG (r4.symm.trans r2)
  .omega
end
noncomputable def Lz (F0 N:Nat) (B:aZ) (t i:Nat) (s:St):Option St:=match s.g.get t with
 | some (.ptr lb true 0)=>match s.T B lb with
   | some (.own cs ty)=>match cs[i]? with
     | some (.buf l)=>match s.T B l with
       | some (.cT k xs el)=>match Nat.blt 0 xs.length && !Nat.beq l lb with
         | true=>s.step F0 N none { val:=.raw undef,new:=[.row 1 (xs.map (SV.int false k)) el],wr:=[(l,.gone),(lb,.own (cs.set i (.cP s.nx 0 xs.length 0)) ty)] } s.nx (s.nx+8)
         | false=>none
       | _=>none
     | _=>none
   | _=>none
 | _=>none
noncomputable def opS (F0 N:Nat) (B:aZ) (t i:Nat) (s:St):St:=match Lz F0 N B t i s with
 | some s'=>s'
 | none=>s
section
variable {P:Program} {Γ:Env} {w0:World} {M:Nat->Prop} {B:aZ} {N F0:Nat} {V0:aY}
theorem Inv.Lz {t i:Nat} {s s':St} (h:Lz F0 N B t i s=some s') {V:aY} {a:Act} {w:World} (hi:Inv P Γ w0 M B N F0 V0 s V a w):∃ V',Inv P Γ w0 M B N F0 V0 s' V' a w:=by
 unfold Sx.Lz at h
 split at h
 case h_2=>cases h
 rename_i lb _
 split at h
 case h_2=>cases h
 rename_i cs ty hb
 split at h
 case h_2=>cases h
 rename_i l hc
 split at h
 case h_2=>cases h
 rename_i k xs el hl
 split at h
 case h_2=>cases h
 rename_i gY
 simp only [Bool.and_eq_true,Bool.not_eq_true'] at gY
 obtain ⟨k1,k2⟩:=gY
 obtain ⟨V',hV,hT⟩:=aC.opened hi.eG hi.top.fresh hi.hi hl (by simpa [Nat.blt_eq] using k1) hb hc (fun e=>by subst e;rw [Nat.beq_refl] at k2;cases k2) (.raw undef)
 exact ⟨V',hi.step (x:=undef) h (Nat.le_refl _) (Nat.le_refl _) hV (fun h=>by cases h) hT⟩
theorem G.op (t i:Nat) {cf:Cf} {K:List Fr} {s:St} {Q:Exit->Act->World->Prop} (hG:G P Γ w0 M B N F0 V0 cf K (opS F0 N B t i s) Q):G P Γ w0 M B N F0 V0 cf K s Q:=by
 intro V a w hi
 unfold opS at hG
 split at hG
 .rename_i s' h
  obtain ⟨V',fS⟩:=hi.Lz h
  exact hG V' a w fS
 .exact hG V a w hi
end
end Go.Proofs.YticicdfijghigaaGreatDoor.Sx
section
namespace Go.Proofs.YticicdfijghigaaGreatDoor.Sx
end Go.Proofs.YticicdfijghigaaGreatDoor.Sx
end
namespace Go.Proofs.YticicdfijghigaaGreatDoor.Sx
def dJ (n:Nat) (xs:List Int):List Int:=(List.range n).map fun j=>xs.getD j 0
theorem eD {n:Nat} {xs:List Int} (h:xs.length=n):dJ n xs=xs:=by
 unfold dJ
 apply List.ext_getElem
 .simp [h]
 .intro i h1 h2
  simp [List.getD_eq_getElem?_getD,h2]
namespace B
def word (l:List Int) (i:Nat):Int:=kN .u32 (kN .u32 (kN .u32 (IntKind.u32.wrap (l.getD (4*i) 0)) (dI .u32 (IntKind.u32.wrap (l.getD (4*i+1) 0)) 8)) (dI .u32 (IntKind.u32.wrap (l.getD (4*i+2) 0)) 16)) (dI .u32 (IntKind.u32.wrap (l.getD (4*i+3) 0)) 24)
def rot (x k:Int):Int:=kN .u32 (dI .u32 x k) (bZ .u32 x (32-k))
def qr (v:List Int) (a b c d:Nat):List Int:=
 let v:=v.set a (IntKind.u32.wrap (v.getD a 0+v.getD b 0))
 let v:=v.set d (rot (gO .u32 (v.getD d 0) (v.getD a 0)) 16)
 let v:=v.set c (IntKind.u32.wrap (v.getD c 0+v.getD d 0))
 let v:=v.set b (rot (gO .u32 (v.getD b 0) (v.getD c 0)) 12)
 let v:=v.set a (IntKind.u32.wrap (v.getD a 0+v.getD b 0))
 let v:=v.set d (rot (gO .u32 (v.getD d 0) (v.getD a 0)) 8)
 let v:=v.set c (IntKind.u32.wrap (v.getD c 0+v.getD d 0))
 v.set b (rot (gO .u32 (v.getD b 0) (v.getD c 0)) 7)
def dr (v:List Int):List Int:=
 qr (qr (qr (qr (qr (qr (qr (qr v 0 4 8 12) 1 5 9 13) 2 6 10 14) 3 7 11 15) 0 5 10 15) 1 6 11 12) 2 7 8 13) 3 4 9 14
def rounds (n:Nat) (v:List Int):List Int:=match n with
 | 0=>v
 | n+1=>rounds n (dr v)
def init (key nonce:List Int) (ctr:Int):List Int:=[1634760805,857760878,2036477234,1797285236]++(List.range 8).map (word key)++[ctr]++(List.range 3).map (word nonce)
def out (v w:List Int):List Int:=(List.range 64).map fun j=>IntKind.u8.wrap (bZ .u32 (IntKind.u32.wrap (v.getD (j/4) 0+w.getD (j/4) 0)) (IntKind.i64.wrap (8*(j%4:Nat))))
def block (key nonce:List Int) (ctr:Int):List Int:=out (rounds 10 (init key nonce ctr)) (init key nonce ctr)
end B
def zE (key nonce:List Int) (c:Int) (i:Nat):Int:=(B.block key nonce (IntKind.u32.wrap (c+(i/64:Nat)))).getD (i%64) 0
def cG (key nonce:List Int) (c:Int) (off n:Nat) (xs:List Int):List Int:=
 (List.range xs.length).map fun m=>if off<=m/\m<off+n then gO .u8 (xs.getD m 0) (zE key nonce c (m-off)) else xs.getD m 0
theorem fL (key nonce:List Int) (c:Int) (off n:Nat) (xs:List Int):(cG key nonce c off n xs).length=xs.length:=by simp [cG]
theorem oV (key nonce:List Int) (c:Int) (off n:Nat) (xs:List Int) {m:Nat} (h:m<xs.length):(cG key nonce c off n xs).getD m 0=if off<=m/\m<off+n then gO .u8 (xs.getD m 0) (zE key nonce c (m-off)) else xs.getD m 0:=by
 simp [cG,List.getD_eq_getElem?_getD,h]
theorem Dj (key nonce:List Int) (c:Int) (off:Nat) (xs:List Int):cG key nonce c off 0 xs=xs:=by
 apply List.ext_getElem
 .simp [cG]
 .intro i h1 h2
  have:¬ (off<=i/\i<off+0):=by omega
  simp only [cG,List.getElem_map,List.getElem_range,if_neg this]
  simp [List.getD_eq_getElem?_getD,h2]
theorem Sg (key nonce:List Int) (c:Int) (off n:Nat) (xs:List Int) (h:off+n<xs.length) :
 (cG key nonce c off n xs).set (off+n) (gO .u8 ((cG key nonce c off n xs).getD (off+n) 0) (zE key nonce c n))=cG key nonce c off (n+1) xs:=by
 apply List.ext_getElem
 .simp [cG]
 .intro i h1 h2
  have hl:i<xs.length:=by simpa [cG] using h2
  rw [List.getElem_set]
  split
  .rename_i e
   subst e
   rw [oV _ _ _ _ _ _ h,if_neg (by omega)]
   simp only [cG,List.getElem_map,List.getElem_range]
   rw [if_pos (by omega),Nat.add_sub_cancel_left]
  .rename_i e
   simp only [cG,List.getElem_map,List.getElem_range]
   by_cases hc:off<=i/\i<off+n
   .rw [if_pos hc,if_pos (by omega)]
   .rw [if_neg hc,if_neg (by omega)]
def tws:List (Nat × Nat):=[(184,140),(193,139),(207,141),(261,142),(263,144),(266,143)]
def gC (f:Nat):Option Sum:=match Nat.beq f 175 with
 | true=>some (xM false)
 | false=>match Nat.beq f 211 with
   | true=>some (xM true)
   | false=>none
def aB:List (Nat × Nat):=[(1,0),(2,2),(3,4),(0,8),(5,10),(6,11),(10,15),(11,16),(12,17),(13,18),(22,27)]
theorem mix:Tryz.prog.follows .mixedOrders=true:=by kernel_rfl
theorem aSb:Tryz.prog.funcs.toList.all (fun fn => !(fn.name == "runtime.NumGoroutine"))=true:=by kernel_rfl
theorem names (f:Nat) (fn:Func) (h:Tryz.prog.funcs[f]?=some fn):(fn.name == "runtime.NumGoroutine")=false:=by
 have hm:fn∈Tryz.prog.funcs.toList:=by
  have:=Array.mem_of_getElem? h
  simpa using this
 have:=List.all_eq_true.1 aSb fn hm
 simpa using this
theorem VQ:∀ (args:Array Value) (w:World),(callFunc 184 args).run Tryz.prog w=(callFunc 140 args).run Tryz.prog w:=
 rN (twin := "math/big.subVV_g") Tryz.func184 Tryz.func140 rfl rfl (by kernel_rfl) (by kernel_rfl) (by kernel_rfl) (by kernel_rfl) rfl rfl
theorem VP:∀ (args:Array Value) (w:World),(callFunc 193 args).run Tryz.prog w=(callFunc 139 args).run Tryz.prog w:=
 rN (twin := "math/big.addVV_g") Tryz.func193 Tryz.func139 rfl rfl (by kernel_rfl) (by kernel_rfl) (by kernel_rfl) (by kernel_rfl) rfl rfl
theorem VO:∀ (args:Array Value) (w:World),(callFunc 207 args).run Tryz.prog w=(callFunc 141 args).run Tryz.prog w:=
 rN (twin := "math/big.lshVU_g") Tryz.func207 Tryz.func141 rfl rfl (by kernel_rfl) (by kernel_rfl) (by kernel_rfl) (by kernel_rfl) rfl rfl
theorem VN:∀ (args:Array Value) (w:World),(callFunc 261 args).run Tryz.prog w=(callFunc 142 args).run Tryz.prog w:=
 rN (twin := "math/big.rshVU_g") Tryz.func261 Tryz.func142 rfl rfl (by kernel_rfl) (by kernel_rfl) (by kernel_rfl) (by kernel_rfl) rfl rfl
theorem VM:∀ (args:Array Value) (w:World),(callFunc 263 args).run Tryz.prog w=(callFunc 144 args).run Tryz.prog w:=
 rN (twin := "math/big.addMulVVWW_g") Tryz.func263 Tryz.func144 rfl rfl (by kernel_rfl) (by kernel_rfl) (by kernel_rfl) (by kernel_rfl) rfl rfl
theorem VL:∀ (args:Array Value) (w:World),(callFunc 266 args).run Tryz.prog w=(callFunc 143 args).run Tryz.prog w:=
 rN (twin := "math/big.mulAddVWW_g") Tryz.func266 Tryz.func143 rfl rfl (by kernel_rfl) (by kernel_rfl) (by kernel_rfl) (by kernel_rfl) rfl rfl
theorem aHt (f g:Nat) (h:look f tws=some g):∀ (args:Array Value) (w:World),(callFunc f args).run Tryz.prog w=(callFunc g args).run Tryz.prog w:=by
 have hm:=fY h
 simp only [tws,List.mem_cons,List.not_mem_nil,or_false,Prod.mk.injEq] at hm
 rcases hm with ⟨rfl,rfl⟩ | ⟨rfl,rfl⟩ | ⟨rfl,rfl⟩ | ⟨rfl,rfl⟩ | ⟨rfl,rfl⟩ | ⟨rfl,rfl⟩
 .exact VQ
 .exact VP
 .exact VO
 .exact VN
 .exact VM
 .exact VL
theorem QK (Γ:Env):aH Tryz.prog Γ 175 (xM false):=Hl false fun args w=>by
 rw [run_callFunc_extern Tryz.func175 (by kernel_rfl) (by kernel_rfl) (by kernel_rfl) (e:=add64Entry) (by kernel_rfl)]
 simp only [Sem.run_bind,Sem.run_pure]
theorem KP (Γ:Env):aH Tryz.prog Γ 211 (xM true):=Hl true fun args w=>by
 rw [run_callFunc_extern Tryz.func211 (by kernel_rfl) (by kernel_rfl) (by kernel_rfl) (e:=Qp) (by kernel_rfl)]
 simp only [Sem.run_bind,Sem.run_pure]
theorem tJ (f:Nat) (S:Sum) (h:gC f=some S) (Γ:Env):aH Tryz.prog Γ f S:=by
 unfold gC at h
 split at h
 .rename_i hb;have:=cH hb;subst this;cases h;exact QK Γ
 .split at h
  .rename_i hb;have:=cH hb;subst this;cases h;exact KP Γ
  .cases h
def VB:List Nat:=[428,97]
theorem aMh:(Tryz.prog.info? 428).all (fun i=>i.comparable)=true:=by kernel_rfl
theorem aCj:Tryz.prog.stoodInHeld 428=false:=by kernel_rfl
theorem aMf:(Tryz.prog.info? 97).all (fun i=>i.comparable)=true:=by kernel_rfl
theorem aCi:Tryz.prog.stoodInHeld 97=false:=by kernel_rfl
theorem aCw (t:Nat) (h:VB.elem t=true):(∀ i,Tryz.prog.info? t=some i->i.comparable=true)/\Tryz.prog.stoodInHeld t=false:=by
 have e:t=428\/t=97:=by simpa [VB] using h
 rcases e with rfl | rfl
 .refine ⟨fun i hi=>?_,aCj⟩
  have:=aMh
  rw [hi] at this
  simpa using this
 .refine ⟨fun i hi=>?_,aCi⟩
  have:=aMf
  rw [hi] at this
  simpa using this
theorem aJm (ex:Nat->Option Sum) (hex:∀ f S,ex f=some S->∀ Γ:Env,Γ.aR=aB->aH Tryz.prog Γ f S):KI Tryz.prog aB VB ex tws:=
 ⟨mix,names,aCw,⟨_,rfl⟩,aHt,hex⟩
noncomputable def env (ex:Nat->Option Sum) (n:Nat):Env:=Lg Tryz.prog aB VB ex tws 400 n
theorem bW (ex:Nat->Option Sum) (hex:∀ f S,ex f=some S->∀ Γ:Env,Γ.aR=aB->aH Tryz.prog Γ f S) (n:Nat):cK Tryz.prog (env ex n):=aCk (aJm ex hex) 400 n
theorem bQ (ex:Nat->Option Sum) (n:Nat):cA Tryz.prog (env ex n):=cA.prog pL.1
def Hv:List (Nat × SB):=[(10,.fP [.int true .u32 1634760805,.int true .u32 857760878,.int true .u32 2036477234,.int true .u32 1797285236]),(11,.fP ([0,4,8,12,1,5,9,13,2,6,10,14,3,7,11,15,0,5,10,15,1,6,11,12,2,7,8,13,3,4,9,14].map fun n=>.int true .i64 n))]
theorem BW (key nonce:List Int) (c:Int):aJ (env gC 6) Tryz.f100 true [] 400 [.agg (cO .u8 32 key),.int false .u32 c,.agg (cO .u8 12 nonce)] (fun l=>look l Hv) 100 100 =
 some { val:=.agg ((B.block key nonce c).map (.int false .u8)) }:=by kernel_rfl
def bX:List Prop->Prop
 | []=>True
 | p::r=>p/\bX r
theorem aA:∀ {l:List Prop},bX l->∀ q∈l,q
 | [],_,q,hq=>by cases hq
 | p::r,h,q,hq=>by
   rcases List.mem_cons.1 hq with rfl | hq
   .exact h.1
   .exact aA h.2 q hq
theorem wL (V:aY) (k:IntKind):∀ xs:List Int,aE V (xs.map (SV.int false k))=some (xs.map (Value.int k))
 | []=>rfl
 | x::xs=>by simp [aE,den,wL V k xs]
theorem nE (V:aY) (k:IntKind) (xs:List Int):den V (.agg (xs.map (SV.int false k)))=den V (.ai k xs):=by
 simp only [den,wL,Option.map_some]
theorem bI (V:aY) {k:IntKind} {n:Nat} {xs:List Int} (h:xs.length=n):den V (.agg (cO k n xs))=den V (.ai k xs):=by
 simp only [den,wD h,Option.map_some]
theorem aF.words {P:Program} {Γ Γ':Env} {f:FuncId} {vs Kl:List SV} {T T':aZ} {lab F:Nat} {e e':bJ} (h:aF P Γ f vs T lab F e) (hg:Γ'.aR=Γ.aR) (hv:∀ V,aE V Kl=aE V vs) (hT:∀ l B,T l=some B->T' l=some B)
 (he:∀ V,den V e.val=den V e'.val) (hn:e'.new=e.new) (hw:e'.wr=e.wr):aF P Γ' f Kl T' lab F e':=by
 intro w0 M V T2 w xs aL Ic Yb hf hF hx o a K Q hK
 refine h w0 M V T2 w xs (fun l B hl=>aL l B (hT l B hl)) Ic (fun n l hl=>Yb n l (by rw [hg];exact hl)) hf hF ((hv V).symm.trans hx) o a K Q fun V' x w' h1 h2 h3=>hK V' x w' h1 ((he V').symm.trans h2) ?_
 have:eI T2 lab e'=eI T2 lab e:=by funext l;simp only [eI,bJ.eG,hn,hw]
 rw [this]
 exact h3
noncomputable def zM (vs:List SV) (F:Nat):St:={ g:=(Bv vs 0 .lf).getD .lf,tb:=.lf,nx:=F,ws:=[],ob:=[],hs:=[] }
def codeOf (f:Func):Code:=f.body.getD .skip
theorem Ki (a:Int) (j:Nat):IntKind.u32.wrap (IntKind.u32.wrap (a+j)+1)=IntKind.u32.wrap (a+(j+1:Nat)):=by
 simp only [IntKind.wrap_u32];omega
end Go.Proofs.YticicdfijghigaaGreatDoor.Sx
