/- The symbolic executor, twenty-first text: names of blocks, given anew. -/
import Derived.Laws.Externs
import Derived.Deep.LoopGhost
import Derived.Test.YticicdfijghigaaGreatDoorProg
import Derived.KernelRfl
import Derived.Test.YticicdfijghigaaGreatDoorQB
open Go
set_option maxRecDepth 100000
namespace Go.Proofs.YticicdfijghigaaGreatDoor.Sx
mutual
def yA (ρ : Nat->Option Nat):SV->Option SV
 | .int s k n=>some (.int s k n)
 | .bool s b=>some (.bool s b)
 | .ptr l s off=>match ρ l with
   | some l=>some (.ptr l s off)
   | none=>none
 | .aJ l s off len cap=>match ρ l with
   | some l=>some (.aJ l s off len cap)
   | none=>none
 | .agg vs=>match Ap ρ vs with
   | some vs=>some (.agg vs)
   | none=>none
 | .eP vs=>match Ap ρ vs with
   | some vs=>some (.eP vs)
   | none=>none
 | .fn f xs ys=>match Ap ρ xs,Ap ρ ys with
   | some xs,some ys=>some (.fn f xs ys)
   | _,_=>none
 | .rG t v=>match yA ρ v with
   | some v=>some (.rG t v)
   | none=>none
 | .raw v=>some (.raw v)
 | .ai k xs=>some (.ai k xs)
 | .buf l=>match ρ l with
   | some l=>some (.buf l)
   | none=>none
 | .jQ l off=>match ρ l with
   | some l=>some (.jQ l off)
   | none=>none
 | .nH l lo hi=>match ρ l with
   | some l=>some (.nH l lo hi)
   | none=>none
 | .eH l n=>match ρ l with
   | some l=>some (.eH l n)
   | none=>none
 | .cQ l off len lo=>match ρ l with
   | some l=>some (.cQ l off len lo)
   | none=>none
 | .Wn l n cap sz j le=>match ρ l,ρ le with
   | some l,some le=>some (.Wn l n cap sz j le)
   | _,_=>none
 | .tZ l n=>match ρ l with
   | some l=>some (.tZ l n)
   | none=>none
 | .xZ l i n=>match ρ l with
   | some l=>some (.xZ l i n)
   | none=>none
 | .EP l i=>match ρ l with
   | some l=>some (.EP l i)
   | none=>none
def Ap (ρ : Nat->Option Nat):List SV->Option (List SV)
 | []=>some []
 | v::r=>match yA ρ v,Ap ρ r with
   | some v,some r=>some (v::r)
   | _,_=>none
end
def vT (ρ : Nat->Option Nat) (V V':aZ):Prop:=∀ l l',ρ l=some l'->(∀ p,V.β l=some p->V'.β l'=some p)/\(∀ v,V.σ l=some v->V'.σ l'=some v)
mutual
theorem yN {ρ : Nat->Option Nat} {V V':aZ} (h:vT ρ V V'):∀ {v v':SV} {x:Value},yA ρ v=some v'->den V v=some x->den V' v'=some x
 | .int ..,v',x,hr,hd=>by simp only [yA,zzI] at hr;subst hr;exact hd
 | .bool ..,v',x,hr,hd=>by simp only [yA,zzI] at hr;subst hr;exact hd
 | .ai ..,v',x,hr,hd=>by simp only [yA,zzI] at hr;subst hr;exact hd
 | .ptr l s off,v',x,hr,hd=>by
   simp only [yA] at hr
   split at hr
   .rename_i l' hl
    cases hr
    simp only [den,zzM] at hd |-
    obtain ⟨p,hp,rfl⟩:=hd
    exact ⟨p,(h l l' hl).1 p hp,rfl⟩
   .cases hr
 | .aJ l s off len cap,v',x,hr,hd=>by
   simp only [yA] at hr
   split at hr
   .rename_i l' hl
    cases hr
    simp only [den,zzM] at hd |-
    obtain ⟨p,hp,rfl⟩:=hd
    exact ⟨p,(h l l' hl).1 p hp,rfl⟩
   .cases hr
 | .agg vs,v',x,hr,hd=>by
   simp only [yA] at hr
   split at hr
   .rename_i Ml hl
    cases hr
    simp only [den,zzM] at hd |-
    obtain ⟨p,hp,rfl⟩:=hd
    exact ⟨p,mE h hl hp,rfl⟩
   .cases hr
 | .eP vs,v',x,hr,hd=>by
   simp only [yA] at hr
   split at hr
   .rename_i Ml hl
    cases hr
    simp only [den,zzM] at hd |-
    obtain ⟨p,hp,rfl⟩:=hd
    exact ⟨p,mE h hl hp,rfl⟩
   .cases hr
 | .fn f xs ys,v',x,hr,hd=>by
   simp only [yA] at hr
   split at hr
   .rename_i iZ ys' h1 h2
    cases hr
    simp only [den,zzM,zzB] at hd |-
    obtain ⟨p,hp,q,hq,rfl⟩:=hd
    exact ⟨p,mE h h1 hp,q,mE h h2 hq,rfl⟩
   .cases hr
 | .rG t v,v',x,hr,hd=>by
   simp only [yA] at hr
   split at hr
   .rename_i u hl
    cases hr
    simp only [den,zzM] at hd |-
    obtain ⟨p,hp,rfl⟩:=hd
    exact ⟨p,yN h hl hp,rfl⟩
   .cases hr
 | .raw v,v',x,hr,hd=>by simp only [yA,zzI] at hr;subst hr;exact hd
 | .tZ l n,v',x,hr,hd=>by
   simp only [yA] at hr
   split at hr
   .rename_i l' hl
    cases hr
    simp only [den,zzB] at hd |-
    obtain ⟨u,hu,e⟩:=hd
    exact ⟨u,(h l l' hl).2 u hu,e⟩
   .cases hr
 | .xZ l i n,v',x,hr,hd=>by
   simp only [yA] at hr
   split at hr
   .rename_i l' hl
    cases hr
    simp only [den,zzB] at hd |-
    obtain ⟨u,hu,e⟩:=hd
    exact ⟨u,(h l l' hl).2 u hu,e⟩
   .cases hr
 | .EP l i,v',x,hr,hd=>by
   simp only [yA] at hr
   split at hr
   .rename_i l' hl
    cases hr
    simp only [den,zzB] at hd |-
    obtain ⟨u,hu,e⟩:=hd
    exact ⟨u,(h l l' hl).2 u hu,e⟩
   .cases hr
 | .Wn l n cap sz j le,v',x,hr,hd=>by
   simp only [yA] at hr
   split at hr
   .rename_i l1 l2 Rd tQ
    cases hr
    simp only [den,zzB] at hd |-
    obtain ⟨p,hp,q,hq,e⟩:=hd
    exact ⟨p,(h l l1 Rd).1 p hp,q,(h le l2 tQ).1 q hq,e⟩
   .cases hr
 | .buf l,v',x,hr,hd=>by
   simp only [yA] at hr
   split at hr
   .rename_i l' hl;cases hr;simp only [den] at hd |-;exact (h l l' hl).2 x hd
   .cases hr
 | .jQ l off,v',x,hr,hd=>by
   simp only [yA] at hr
   split at hr
   .rename_i l' hl
    cases hr
    simp only [den] at hd |-
    split at hd
    .rename_i hs;rw [(h l l' hl).2 _ hs];exact hd
    .cases hd
   .cases hr
 | .nH l lo hi,v',x,hr,hd=>by
   simp only [yA] at hr
   split at hr
   .rename_i l' hl
    cases hr
    simp only [den] at hd |-
    split at hd
    .rename_i hs;rw [(h l l' hl).2 _ hs];exact hd
    .cases hd
   .cases hr
 | .eH l n,v',x,hr,hd=>by
   simp only [yA] at hr
   split at hr
   .rename_i l' hl
    cases hr
    simp only [den,zzB] at hd |-
    obtain ⟨v,hv,hx⟩:=hd
    exact ⟨v,(h l l' hl).2 _ hv,hx⟩
   .cases hr
 | .cQ l off len lo,v',x,hr,hd=>by
   simp only [yA] at hr
   split at hr
   .rename_i l' hl
    cases hr
    simp only [den,zzM,zzB] at hd |-
    obtain ⟨p,hp,c,hc,rfl⟩:=hd
    refine ⟨p,(h l l' hl).1 p hp,c,?_,rfl⟩
    cases hs:V.σ l with
    | none=>rw [hs] at hc;cases hc
    | some v=>rw [(h l l' hl).2 v hs,<- hs];exact hc
   .cases hr
theorem mE {ρ : Nat->Option Nat} {V V':aZ} (h:vT ρ V V'):∀ {vs Ml:List SV} {xs:List Value},Ap ρ vs=some Ml->aG V vs=some xs->aG V' Ml=some xs
 | [],Ml,xs,hr,hd=>by simp only [Ap,zzI] at hr;subst hr;simpa [aG] using hd
 | v::r,Ml,xs,hr,hd=>by
   simp only [Ap] at hr
   split at hr
   .rename_i v' r' h1 h2
    cases hr
    simp only [aG,zzM,zzB] at hd |-
    obtain ⟨x,hx,ys,hy,rfl⟩:=hd
    exact ⟨x,yN h h1 hx,ys,mE h h2 hy,rfl⟩
   .cases hr
end
def vJ (ρ : Nat->Option Nat):SB->Option SB
 | .own cs ty=>match Ap ρ cs with
   | some cs=>some (.own cs ty)
   | none=>none
 | .row sz cs ty=>match Ap ρ cs with
   | some cs=>some (.row sz cs ty)
   | none=>none
 | .jB pre l ds ty=>match Ap ρ pre,ρ l with
   | some pre,some l=>some (.jB pre l ds ty)
   | _,_=>none
 | .ints k xs ty=>some (.ints k xs ty)
 | .cS k xs ty=>some (.cS k xs ty)
 | .fX sz n ty=>some (.fX sz n ty)
 | .eQ xs ty=>some (.eQ xs ty)
 | .eK vs ty=>some (.eK vs ty)
 | .gone=>some .gone
 | _=>none
theorem Zu {ρ : Nat->Option Nat} {V V':aZ} (h:vT ρ V V') {l l':Nat} (hl : ρ l=some l'):∀ {i:Nat} {ds:List (List Int)} {us:List Value},aG V (Gf l i ds)=some us->aG V' (Gf l' i ds)=some us
 | _,[],_,e=>e
 | i,d::r,us,e=>by
   simp only [Gf,aG,zzM,zzB] at e |-
   obtain ⟨x,hx,ys,hy,rfl⟩:=e
   exact ⟨x,yN h (v:=.xZ l i d.length) (by simp only [yA,hl]) hx,ys,Zu h hl hy,rfl⟩
theorem qO {V:aZ}:∀ {a b:List SV} {xs:List Value},aG V (a++b)=some xs->∃ ys zs,aG V a=some ys/\aG V b=some zs/\xs=ys++zs
 | [],b,xs,h=>⟨[],xs,rfl,h,rfl⟩
 | v::a,b,xs,h=>by
   simp only [List.cons_append,aG,zzM,zzB] at h
   obtain ⟨x,hx,ws,hw,rfl⟩:=h
   obtain ⟨ys,zs,h1,h2,rfl⟩:=qO hw
   exact ⟨x::ys,zs,by simp only [aG,hx,h1,zza,zzm],h2,rfl⟩
theorem rY {ρ : Nat->Option Nat} {V V':aZ} (h:vT ρ V V') {w:World} {l l':Nat} {B B':SB} (hl : ρ l=some l') (hr:vJ ρ B=some B') (lQ:okB V w l B) :
 okB V' w l' B'/\(∀ n,B'.aN V' l'=some n->B.aN V l=some n)/\(∀ n,B.aN V l=some n->B'.aN V' l'=some n)/\B'.owned=B.owned:=by
 obtain ⟨h1,h2⟩:=h l l' hl
 obtain ⟨cs,hc,hk⟩:=lQ
 cases B with
 | own cells ty=>
   simp only [vJ] at hr
   split at hr
   .rename_i cs' mK
    cases hr
    obtain ⟨b,hb,hh⟩:=hk
    have iO:=h1 _ hb
    exact ⟨⟨cs,mE h mK hc,b,iO,hh⟩,fun n hn=>by simpa [SB.aN,hb,iO] using hn,fun n hn=>by simpa [SB.aN,hb,iO] using hn,rfl⟩
   .cases hr
 | row sz cells ty=>
   simp only [vJ] at hr
   split at hr
   .rename_i cs' mK
    cases hr
    obtain ⟨b,cap,cur,hb,hσ,r⟩:=hk
    have iO:=h1 _ hb
    exact ⟨⟨cs,mE h mK hc,b,cap,cur,iO,h2 _ hσ,r⟩,fun n hn=>by simpa [SB.aN,hb,iO] using hn,fun n hn=>by simpa [SB.aN,hb,iO] using hn,rfl⟩
   .cases hr
 | ints k xs ty=>
   cases hr
   obtain ⟨b,hb,hh⟩:=hk
   have iO:=h1 _ hb
   exact ⟨⟨cs,hc,b,iO,hh⟩,fun n hn=>by simpa [SB.aN,hb,iO] using hn,fun n hn=>by simpa [SB.aN,hb,iO] using hn,rfl⟩
 | eK vs ty=>
   cases hr
   obtain ⟨b,hb,hh⟩:=hk
   have iO:=h1 _ hb
   exact ⟨⟨cs,hc,b,iO,hh⟩,fun n hn=>by simpa [SB.aN,hb,iO] using hn,fun n hn=>by simpa [SB.aN,hb,iO] using hn,rfl⟩
 | cS k xs ty=>
   cases hr
   obtain ⟨v,hσ,hh⟩:=hk
   have fY:=h2 _ hσ
   exact ⟨⟨cs,hc,v,fY,hh⟩,fun n hn=>by simpa [SB.aN,hσ,fY] using hn,fun n hn=>by simpa [SB.aN,hσ,fY] using hn,rfl⟩
 | fX sz n ty=>
   cases hr
   obtain ⟨v,us,hσ,hh⟩:=hk
   have fY:=h2 _ hσ
   exact ⟨⟨cs,hc,v,us,fY,hh⟩,fun n hn=>by simpa [SB.aN,hσ,fY] using hn,fun n hn=>by simpa [SB.aN,hσ,fY] using hn,rfl⟩
 | fS cells=>cases hr
 | nZ k xs=>cases hr
 | gL k xs=>cases hr
 | jB pre k ds ty=>
   simp only [vJ] at hr
   split at hr
   .rename_i GK k' hp iA
    cases hr
    obtain ⟨b,cap,cur,hb,hσ,r⟩:=hk
    have iO:=h1 _ hb
    obtain ⟨ys,zs,e1,e2,rfl⟩:=qO (show aG V (pre++Gf k 0 ds)=some cs from hc)
    exact ⟨⟨_,cH (mE h hp e1) (Zu h iA e2),b,cap,cur,iO,h2 _ hσ,r⟩,fun n hn=>by simpa [SB.aN,hb,iO] using hn,fun n hn=>by simpa [SB.aN,hb,iO] using hn,rfl⟩
   .cases hr
 | mI ds=>cases hr
 | nU d=>cases hr
 | fM ds ty=>cases hr
 | rI xs=>cases hr
 | gU ds z=>cases hr
 | eQ xs ty=>
   cases hr
   obtain ⟨v,hσ,hh⟩:=hk
   have fY:=h2 _ hσ
   exact ⟨⟨cs,hc,v,fY,hh⟩,fun n hn=>by simpa [SB.aN,hσ,fY] using hn,fun n hn=>by simpa [SB.aN,hσ,fY] using hn,rfl⟩
 | gone=>
   cases hr
   exact ⟨⟨[],rfl,trivial⟩,fun n hn=>by simp [SB.aN] at hn,fun n hn=>by simp [SB.aN] at hn,rfl⟩
theorem rX {ρ : Nat->Option Nat} {B B':SB} (h:vJ ρ B=some B'):(B'.owned=true/\B'.plain=true)\/B' = .gone:=by
 cases B <;> simp only [vJ] at h <;> first | (cases h;done) | skip
 .split at h
  .cases h;exact .inl ⟨rfl,rfl⟩
  .cases h
 .cases h;exact .inl ⟨rfl,rfl⟩
 .cases h;exact .inl ⟨rfl,rfl⟩
 .split at h
  .cases h;exact .inl ⟨rfl,rfl⟩
  .cases h
 .cases h;exact .inl ⟨rfl,rfl⟩
 .cases h;exact .inl ⟨rfl,rfl⟩
 .split at h
  .cases h;exact .inl ⟨rfl,rfl⟩
  .cases h
 .cases h;exact .inl ⟨rfl,rfl⟩
 .cases h;exact .inr rfl
def kH (V:aZ) (T:bA) (n:Nat):Prop:=∃ l B,T l=some B/\B.owned=true/\B.aN V l=some n
theorem aC.part {w0 w:World} {M:Nat->Prop} {V:aZ} {T T2:bA} (h:aC w0 M V T2 w) (aK:∀ l B,T l=some B->T2 l=some B):aC w (kH V T) V T w:=
 ⟨fun l B hl=>h.ok l B (aK l B hl),fun l B l' B' n dG hl sP=>h.jX l B l' B' n dG (aK l B hl) (aK l' B' sP),fun l B _ hl ho hb=>.inr ⟨l,B,hl,ho,hb⟩,fO.refl w _,
  fun l B hl=>(h.tV l B (aK l B hl)).gO h.frame fun n ⟨l1,B1,h1,h2,h3⟩=>h.perm l1 B1 n (aK l1 B1 h1) h2 h3⟩
theorem aC.called {w0 w w':World} {M:Nat->Prop} {V V1 V2:aZ} {T T2 Tf T':bA} (h:aC w0 M V T2 w) (aK:∀ l B,T l=some B->T2 l=some B)
 (hf:aC w (kH V T) V1 Tf w') (hV:V.le V2) (src:Nat->Option Nat)
 (oZ:∀ l B,T' l=some B->(∃ k,src l=some k/\∃ C,Tf k=some C/\okB V2 w' l B/\(∀ n,B.aN V2 l=some n->C.aN V1 k=some n)/\B.owned=C.owned/\((B.owned=true/\B.plain=true)\/B = .gone\/T2 l=some B))\/(src l=none/\T l=none/\T2 l=some B))
 (bDi:∀ l l' k,src l=some k->src l'=some k->l=l'):aC w0 M V2 T' w':=by
 have fE:∀ l B n,T2 l=some B->B.aN V2 l=some n->B.aN V l=some n:=fun l B n hl hb=>by rwa [(h.ok l B hl).uS hV] at hb
 have Gc:∀ l B n,T l=none->T2 l=some B->B.aN V l=some n->¬ kH V T n:=by
  rintro l B n h1 h2 h3 ⟨l1,B1,h4,h5,h6⟩
  have dG:l1≠l:=fun e=>by subst e;rw [h1] at h4;cases h4
  exact h.jX l1 B1 l B n dG (aK l1 B1 h4) h2 h5 h6 h3
 have BF:∀ l B n,T l=none->T2 l=some B->B.aN V l=some n->∀ k C,Tf k=some C->C.owned=true->C.aN V1 k≠some n:=by
  intro l B n h1 h2 h3 k C hk ho hb
  have cM:=(h.ok l B h2).lt h3
  rcases hf.perm k C n hk ho hb with UI | hm
  .omega
  .exact Gc l B n h1 h2 h3 hm
 refine ⟨fun l B hl=>?_,fun l B l' B' n dG hl sP ho hb iO=>?_,fun l B n hl ho hb=>?_,?_,fun l B hl=>?_⟩
 .rcases oZ l B hl with ⟨k,_,C,_,lQ,_⟩ | ⟨_,h1,h2⟩
  .exact lQ
  .refine (h.ok l B h2).gO hV hf.frame.size fun n hn=>?_
   exact hf.frame.block n ((h.ok l B h2).lt hn) (Gc l B n h1 h2 hn)
 .rcases oZ l B hl with ⟨k,hk,C,hC,_,Mp,hoC,fN⟩ | ⟨hk,h1,h2⟩ <;> rcases oZ l' B' sP with ⟨k',iA,C',VM,_,BH,bDf,JK⟩ | ⟨iA,Gk,EY⟩
  .have Ci:k≠k':=fun e=>dG (bDi l l' k hk (e ▸ iA))
   exact hf.jX k C k' C' n Ci hC VM (hoC ▸ ho) (Mp n hb) (BH n iO)
  .exact BF l' B' n Gk EY (fE l' B' n EY iO) k C hC (hoC ▸ ho) (Mp n hb)
  .rcases JK with JK | rfl | aSl
   .exact BF l B n h1 h2 (fE l B n h2 hb) k' C' VM (bDf ▸ JK.1) (BH n iO)
   .simp [SB.aN] at iO
   .exact h.jX l B l' B' n dG h2 aSl ho (fE l B n h2 hb) (fE l' B' n aSl iO)
  .exact h.jX l B l' B' n dG h2 EY ho (fE l B n h2 hb) (fE l' B' n EY iO)
 .rcases oZ l B hl with ⟨k,hk,C,hC,_,Mp,hoC,fN⟩ | ⟨hk,h1,h2⟩
  .rcases hf.perm k C n hC (hoC ▸ ho) (Mp n hb) with UI | ⟨l1,B1,h4,h5,h6⟩
   .have:=h.frame.size;left;omega
   .exact h.perm l1 B1 n (aK l1 B1 h4) h5 h6
  .exact h.perm l B n h2 ho (fE l B n h2 hb)
 .refine h.frame.trans hf.frame fun n hn ⟨l1,B1,h4,h5,h6⟩=>?_
  rcases h.perm l1 B1 n (aK l1 B1 h4) h5 h6 with UI | hm
  .omega
  .exact hm
 .rcases oZ l B hl with ⟨_,_,_,_,_,_,_,fN | rfl | h2⟩ | ⟨_,_,h2⟩
  .exact cY fN.2
  .trivial
  .exact (h.tV l B h2).le hV
  .exact (h.tV l B h2).le hV
def aY (F:Nat) (T:bA):bA:=fun l=>match Nat.blt l F with
 | true=>T l
 | false=>none
theorem lM {F:Nat} {T:bA} {l:Nat} {B:SB} (h:aY F T l=some B):l<F/\T l=some B:=by
 unfold aY at h
 split at h
 .rename_i hb;exact ⟨by simpa [Nat.blt_eq] using hb,h⟩
 .cases h
noncomputable def Dq:List SV->Nat->Tr SV->Option (Tr SV)
 | [],_,t=>some t
 | v::r,i,t=>match Tr.put v 64 t i with
   | some t=>Dq r (i+1) t
   | none=>none
theorem zB:∀ {vs:List SV} {i:Nat} {t t':Tr SV},Dq vs i t=some t'->∀ m,t'.get m=if i<=m/\m<i+vs.length then vs[m-i]? else t.get m
 | [],i,t,t',h,m=>by
   simp only [Dq,zzI] at h
   subst h
   rw [if_neg (by simp)]
 | v::r,i,t,t',h,m=>by
   simp only [Dq] at h
   split at h
   .rename_i t1 h1
    rw [zB h m]
    by_cases e:m=i
    .subst e
     rw [if_neg (by omega),Tr.iH _ _ _ _ _ h1,if_pos rfl,if_pos (by simp)]
     simp
    .by_cases e2:i+1<=m/\m<i+1+r.length
     .rw [if_pos e2,if_pos (by simp;omega),show m-i=(m-(i+1))+1 from by omega]
      simp
     .rw [if_neg e2,Tr.iH _ _ _ _ _ h1,if_neg e,if_neg (by simp;omega)]
   .cases h
mutual
def eT:SV->List Nat
 | .ptr l _ _=>[l]
 | .aJ l _ _ _ _=>[l]
 | .agg vs=>Dn vs
 | .eP vs=>Dn vs
 | .fn _ xs ys=>Dn xs++Dn ys
 | .rG _ v=>eT v
 | .buf l=>[l]
 | .jQ l _=>[l]
 | .nH l _ _=>[l]
 | .eH l _=>[l]
 | .Wn l _ _ _ _ le=>[l,le]
 | .cQ l _ _ _=>[l]
 | _=>[]
def Dn:List SV->List Nat
 | []=>[]
 | v::r=>eT v++Dn r
end
def JF:SB->List Nat
 | .own cs _=>Dn cs
 | .row _ cs _=>Dn cs
 | _=>[]
noncomputable def reach (F:Nat) (tb:Tr SB):Nat->List Nat->List Nat->List Nat
 | 0,_,acc=>acc
 | _+1,[],acc=>acc
 | f+1,l::r,acc=>match Nat.blt l F||acc.elem l with
   | true=>reach F tb f r acc
   | false=>match tb.get l with
     | some B=>reach F tb f (JF B++r) (acc++[l])
     | none=>reach F tb f r acc
def Gr (l:Nat):List Nat->Nat->Option Nat
 | [],_=>none
 | k::r,i=>match Nat.beq k l with
   | true=>some i
   | false=>Gr l r (i+1)
theorem wF {l:Nat}:∀ {ls:List Nat} {i j:Nat},Gr l ls i=some j->i<=j/\ls[j-i]?=some l
 | [],i,j,h=>by cases h
 | k::r,i,j,h=>by
   simp only [Gr] at h
   split at h
   .rename_i hb
    cases h
    have:=zzN hb
    subst this
    simp
   .obtain ⟨h1,h2⟩:=wF h
    refine ⟨by omega,?_⟩
    rw [show j-i=(j-(i+1))+1 from by omega]
    simpa using h2
def Hx:List Nat->Bool
 | []=>true
 | k::r=>match r.elem k with
   | true=>false
   | false=>Hx r
theorem xG:∀ {ls:List Nat},Hx ls=true->∀ {i j k:Nat},ls[i]?=some k->ls[j]?=some k->i=j
 | [],_,i,j,k,hi,_=>by simp at hi
 | a::r,h,i,j,k,hi,hj=>by
   simp only [Hx] at h
   split at h
   .cases h
   .rename_i hn
    have hn:a ∉ r:=by simpa using hn
    cases i with
    | zero=>
      simp only [List.getElem?_cons_zero,zzI] at hi
      subst hi
      cases j with
      | zero=>rfl
      | succ j=>simp only [List.getElem?_cons_succ] at hj;exact absurd (List.mem_of_getElem? hj) hn
    | succ i=>
      simp only [List.getElem?_cons_succ] at hi
      cases j with
      | zero=>simp only [List.getElem?_cons_zero,zzI] at hj;subst hj;exact absurd (List.mem_of_getElem? hi) hn
      | succ j=>simp only [List.getElem?_cons_succ] at hj;rw [xG h hi hj]
def nm (F lab:Nat) (ls:List Nat) (l:Nat):Option Nat:=match Nat.blt l F with
 | true=>some l
 | false=>match Gr l ls 0 with
   | some i=>some (lab+i)
   | none=>none
noncomputable def uK (ρ : Nat->Option Nat) (tb:Tr SB):List Nat->Option (List SB)
 | []=>some []
 | l::r=>match tb.get l with
   | some B=>match vJ ρ B,uK ρ tb r with
     | some B,some bs=>some (B::bs)
     | _,_=>none
   | none=>none
theorem uY {ρ : Nat->Option Nat} {tb:Tr SB}:∀ {ls:List Nat} {bs:List SB},uK ρ tb ls=some bs->bs.length=ls.length/\∀ (i:Nat) (B:SB),bs[i]?=some B->∃ (l:Nat) (C:SB),ls[i]?=some l/\tb.get l=some C/\vJ ρ C=some B
 | [],bs,h=>by simp only [uK,zzI] at h;subst h;simp
 | l::r,bs,h=>by
   simp only [uK] at h
   split at h
   .rename_i C hC
    split at h
    .rename_i B' bs' hB UK
     cases h
     obtain ⟨h1,h2⟩:=uY UK
     refine ⟨by simp [h1],fun i B hi=>?_⟩
     cases i with
     | zero=>simp only [List.getElem?_cons_zero,zzI] at hi;subst hi;exact ⟨l,C,rfl,hC,hB⟩
     | succ i=>simpa using h2 i B (by simpa using hi)
    .cases h
   .cases h
def pF:List Nat->List SB->List (Nat × SB)
 | l::ls,b::bs=>(l,b)::pF ls bs
 | _,_=>[]
theorem nQ:∀ {ls:List Nat} {bs:List SB} {l:Nat} {B:SB},look l (pF ls bs)=some B->∃ i:Nat,ls[i]?=some l/\bs[i]?=some B
 | [],_,l,B,h=>by simp [pF,look] at h
 | _::_,[],l,B,h=>by simp [pF,look] at h
 | k::ls,b::bs,l,B,h=>by
   simp only [pF] at h
   by_cases e:k=l
   .subst e;rw [aH] at h;cases h;exact ⟨0,rfl,rfl⟩
   .rw [aD e] at h
    obtain ⟨i,h1,h2⟩:=nQ h
    exact ⟨i+1,by simpa using h1,by simpa using h2⟩
theorem mA:∀ {ls:List Nat} {bs:List SB} {l:Nat},bs.length=ls.length->look l (pF ls bs)=none->l ∉ ls
 | [],_,l,_,_=>by simp
 | _::_,[],l,hl,_=>by simp at hl
 | k::ls,b::bs,l,hl,h=>by
   simp only [pF] at h
   by_cases e:k=l
   .subst e;rw [aH] at h;cases h
   .rw [aD e] at h
    have:=mA (by simpa using hl) h
    simp only [List.mem_cons,not_or]
    exact ⟨fun q=>e q.symm,this⟩
def WN (Γ:Env) (g:Nat->Option SV) (T:bA):ResultVar->Option (List Prop × SV)
 | .tmp t=>(g t).map fun v=>([],v)
 | .cell a t=>match g a,Γ.ty t with
   | some (.ptr l true off),some ti=>match T l with
     | some B=>match HH Γ ti.desc,B,Nat.beq off 0 with
       | some _,.ints k xs _,true=>some ([xs.length=ti.size],.ai k xs)
       | _,_,_=>match Wo B true off ti.size with
         | some (ob,r)=>match tN ti.desc with
           | true=>some (ob,.agg r)
           | false=>match r with
             | [v]=>some (ob,v)
             | _=>none
         | none=>none
     | none=>none
   | _,_=>none
def Cv (Γ:Env) (g:Nat->Option SV) (T:bA):List ResultVar->Option (List Prop × List SV)
 | []=>some ([],[])
 | r::rs=>match WN Γ g T r,Cv Γ g T rs with
   | some (a,v),some (b,vs)=>some (a++b,v::vs)
   | _,_=>none
noncomputable def St.TQ (s:St) (ob:List Prop):St:={ s with ob:=ob++s.ob }
def res (vs:List SV):SV:=match vs with
 | [v]=>v
 | _=>.eP vs
noncomputable def finish (F lab:Nat) (s:St) (v:SV):Option bL:=
 match uK some s.tb s.ws with
 | none=>none
 | some bs0=>
   let ls:=reach F s.tb 4096 (eT v++(bs0.map JF).flatten) []
   match yA (nm F lab ls) v,uK (nm F lab ls) s.tb ls,uK (nm F lab ls) s.tb s.ws,Nat.ble ls.length 8&&(Hx ls&&(ls.all (fun l=>Nat.ble F l)&&s.ws.all (fun l=>Nat.blt l F))) with
   | some v,some new,some wr,true=>some { bK:=s.ob,val:=v,new:=new,wr:=pF s.ws wr }
   | _,_,_,_=>none
noncomputable def lI (Γ:Env) (B:bA) (F0 N:Nat):List SV->St->Option St
 | [],s=>some s
 | v::r,s=>match v with
   | .fn (.func id) args Ki=>match Γ.XX id with
     | some S=>match S (args++Ki) (s.T B) s.nx (s.nx+8) with
       | some e=>match s.step F0 N none e s.nx (s.nx+8) with
         | some s'=>lI Γ B F0 N r s'
         | none=>none
       | none=>none
     | none=>none
   | _=>none
def rdS (dd:Bool) (o:Option St) (df:List SV) (s:St):Option St:=match dd with
 | true=>o
 | false=>match df with
   | []=>some s
   | _=>none
noncomputable def aF (Γ:Env) (fn:Func) (dd:Bool) (hs:List Bool) (fuel:Nat):Sum:=fun vs T lab F=>
 match fn.body,Nat.ble vs.length fn.ntmps,Dq vs 0 .lf with
 | some c,true,some g=>match exec Γ (aY F T) F fn.ntmps fuel c { g:=g,tb:=.lf,nx:=F,ws:=[],ob:=[],hs:=hs } with
   | some (s,x)=>match x with
     | .exit _=>none
     | _=>match rdS dd (lI Γ (aY F T) F fn.ntmps s.df s) s.df s with
       | some s=>match Cv Γ s.g.get (s.T (aY F T)) fn.results.toList with
         | some (ob,rs)=>finish F lab (s.TQ ob) (res rs)
         | none=>none
       | none=>none
   | none=>none
 | _,_,_=>none
def Sf (tmps:Array Value):ResultVar->Sem Value
 | .tmp t=>pure (tmps.getD t undef)
 | .cell b t=>do loadVar t (<- asAddr (tmps.getD b undef))
theorem aBc {P:Program} {Γ:Env} {w0 w:World} {M:Nat->Prop} {V:aZ} {T:bA} {g:Nat->Option SV} {a:Act} (aR:cC P Γ) (ht:cG V g a) (hT:aC w0 M V T w) {r:ResultVar} {v:SV} {ob:List Prop} (h:WN Γ g T r=some (ob,v)) (ho:∀ q∈ob,q) :
 ∃ x,den V v=some x/\(Sf a.tmps r).run P w = .ok x w:=by
 cases r with
 | tmp t=>
   simp only [WN,zzM,Prod.mk.injEq] at h
   obtain ⟨u,hu,_,rfl⟩:=h
   exact ⟨_,ht t u hu,rfl⟩
 | cell b t=>
   simp only [WN] at h
   split at h
   case h_2=>cases h
   rename_i l off ti hb dX
   have ex:=ht b _ hb
   simp only [den,zzM] at ex
   obtain ⟨⟨bk,base⟩,hβ,ex⟩:=ex
   obtain ⟨hu,i,z,hi,gR,_⟩:=aR t ti dX
   have ex':a.tmps.getD b undef = .pointer (some ⟨bk,base+off,none⟩):=ex.symm
   split at h
   case h_2=>cases h
   rename_i B hB
   have lQ:=hT.ok l B hB
   split at h
   .rename_i k0 k xs ty ha h0
    cases h
    have h0:=zzN h0
    subst h0
    have hlen:xs.length=ti.size:=ho _ (by simp)
    have gX:tN ti.desc=true:=by
     unfold HH at ha
     split at ha
     .rename_i hd;rw [hd];rfl
     .cases ha
    have hr:Wo (.ints k xs ty) false 0 ti.size=some ([0+ti.size<=xs.length],(List.range ti.size).map fun j=>.int false k (xs.getD (0+j) 0)):=rfl
    obtain ⟨zs,g1,g2,g3⟩:=qB lQ hβ hr (by intro q hq;simp only [List.mem_singleton] at hq;subst hq;omega)
    rw [gD (V:=V) ti.size (fun j=>.int false k (xs.getD (0+j) 0)) (fun j=>.int k (xs.getD (0+j) 0)) (fun j _=>rfl),qV xs 0 ti.size (by omega) k] at g1
    cases g1
    have:=(dL hu hi bk (base+0) _ (by rw [g2,gR]) g3).1 gX
    refine ⟨.agg (((xs.drop 0).take ti.size).map (Value.int k)).toArray,by rw [List.drop_zero,<- hlen,List.take_length];rfl,?_⟩
    simp only [Sf,ex',asAddr,Sem.run_bind,Sem.run_pure,Result.andThen_ok,this]
   .split at h
    case h_2=>cases h
    rename_i ob' r hr
    split at h
    .rename_i gX
     cases h
     obtain ⟨xs,h1,h2,h3⟩:=qB lQ hβ hr ho
     have:=(dL hu hi bk (base+off) xs (by rw [h2,gR]) h3).1 gX
     refine ⟨.agg xs.toArray,by simp [den,h1],?_⟩
     simp only [Sf,ex',asAddr,Sem.run_bind,Sem.run_pure,Result.andThen_ok,this]
    .rename_i gX
     split at h
     case h_2=>cases h
     rename_i v'
     cases h
     obtain ⟨xs,h1,h2,h3⟩:=qB lQ hβ hr ho
     obtain ⟨y,rfl,hy⟩:=sF h1
     have:=(dL hu hi bk (base+off) [y] (by rw [h2,gR]) h3).2 gX y rfl
     refine ⟨y,hy,?_⟩
     simp only [Sf,ex',asAddr,Sem.run_bind,Sem.run_pure,Result.andThen_ok,this]
theorem aBb {P:Program} {Γ:Env} {w0 w:World} {M:Nat->Prop} {V:aZ} {T:bA} {g:Nat->Option SV} {a:Act} (aR:cC P Γ) (ht:cG V g a) (hT:aC w0 M V T w) {l:List ResultVar} {vs:List SV} {ob:List Prop} (h:Cv Γ g T l=some (ob,vs)) (ho:∀ q∈ob,q) :
 ∃ xs,aG V vs=some xs/\(l.mapM (Sf a.tmps)).run P w = .ok xs w:=by
 induction l generalizing vs ob with
 | nil=>simp only [Cv,zzI,Prod.mk.injEq] at h;obtain ⟨_,rfl⟩:=h;exact ⟨[],rfl,by simp⟩
 | cons r l ih=>
   simp only [Cv] at h
   split at h
   .rename_i oa v ob' us hv pU
    cases h
    obtain ⟨x,hx,hrx⟩:=aBc aR ht hT hv (fun q hq=>ho q (List.mem_append_left _ hq))
    obtain ⟨xs,mJ,AM⟩:=ih pU (fun q hq=>ho q (List.mem_append_right _ hq))
    refine ⟨x::xs,by simp [aG,hx,mJ],?_⟩
    rw [List.mapM_cons]
    simp only [Sem.run_bind]
    rw [hrx]
    simp only [Result.andThen_ok,AM,Sem.run_pure]
   .cases h
theorem Fm {P:Program} {Γ:Env} {w0 w:World} {M:Nat->Prop} {V:aZ} {T:bA} {g:Nat->Option SV} {a:Act} (aR:cC P Γ) (ht:cG V g a) (hT:aC w0 M V T w) {fn:Func} {vs:List SV} {ob:List Prop} (h:Cv Γ g T fn.results.toList=some (ob,vs)) (ho:∀ q∈ob,q) :
 ∃ x,den V (res vs)=some x/\(results fn a.tmps).run P w = .ok x w:=by
 obtain ⟨xs,h1,h2⟩:=aBb (P:=P) aR ht hT h ho
 have h3:(fn.results.mapM (Sf a.tmps)).run P w = .ok xs.toArray w:=by
  rw [Array.mapM_eq_mapM_toList]
  simp only [Sem.run_map,h2]
  rfl
 have h4:results fn a.tmps=(do let vs <- fn.results.mapM (Sf a.tmps);pure (if h:vs.size=1 then vs[0] else .tuple vs)):=by
  unfold results
  congr 1
 rw [h4]
 simp only [Sem.run_bind,h3,Result.andThen_ok,Sem.run_pure]
 unfold res
 split
 .rename_i v
  obtain ⟨x,rfl,hx⟩:=sF h1
  exact ⟨x,hx,by simp⟩
 .rename_i dG
  refine ⟨.tuple xs.toArray,by simp [den,h1],?_⟩
  have hl:=bC h1
  have:xs.toArray.size≠1:=by
   simp only [List.size_toArray,hl]
   intro q
   match vs,q with
   | [v],_=>exact dG v rfl
  rw [dif_neg this]
theorem Inv.TQ {P:Program} {Γ:Env} {w0:World} {M:Nat->Prop} {B:bA} {N F0:Nat} {V0:aZ} {s:St} {V:aZ} {a:Act} {w:World} (hi:Inv P Γ w0 M B N F0 V0 s V a w) (ob:List Prop):Inv P Γ w0 M B N F0 V0 (s.TQ ob) V a w:=
 ⟨hi.tmp,hi.keys,hi.size,hi.defers,hi.eI,hi.aT,hi.top,hi.le,hi.low,hi.ch,hi.nx,hi.hi⟩
theorem Jf {P:Program} {Γ:Env} {w0 w w':World} {M:Nat->Prop} {V V1:aZ} {T T2:bA} {N F lab:Nat} {s:St} {a':Act} {v:SV} {e:bL} {x:Value}
 (hT2:aC w0 M V T2 w) (aK:∀ l B,T l=some B->T2 l=some B) (hf:V.fresh lab)
 (hI:Inv P Γ w (kH V (aY F T)) (aY F T) N F V s V1 a' w') (hx:den V1 v=some x) (h:finish F lab s v=some e) :
 e.bK=s.ob/\∃ V2,V.ext lab V2/\den V2 e.val=some x/\aC w0 M V2 (eG T2 lab e) w':=by
 unfold finish at h
 split at h
 case h_1=>cases h
 rename_i bs0 _
 obtain ⟨ls,hls⟩:∃ ls,ls=reach F s.tb 4096 (eT v++(bs0.map JF).flatten) []:=⟨_,rfl⟩
 simp only [<- hls] at h
 split at h
 case h_2=>cases h
 rename_i v' new wr hv GQ AI iE
 cases h
 simp only [zzn] at iE
 obtain ⟨FW,vH,hc3,hc4⟩:=iE
 have hlen:=zzL FW
 have XG:∀ (i k:Nat),ls[i]?=some k->F<=k:=fun i k hk=>zzL (List.all_eq_true.1 hc3 k (List.mem_of_getElem? hk))
 have GN:∀ (i k:Nat),s.ws[i]?=some k->k<F:=fun i k hk=>by have:=List.all_eq_true.1 hc4 k (List.mem_of_getElem? hk);simpa [Nat.blt_eq] using this
 obtain ⟨FP,hng⟩:=uY GQ
 obtain ⟨hwl,hwg⟩:=uY AI
 refine ⟨rfl,⟨fun l=>if lab<=l/\l<lab+ls.length then (ls[l-lab]?).bind V1.β else V.β l,fun l=>if lab<=l/\l<lab+ls.length then (ls[l-lab]?).bind V1.σ else V.σ l⟩,?_⟩
 generalize hV2:(⟨fun l=>if lab<=l/\l<lab+ls.length then (ls[l-lab]?).bind V1.β else V.β l,fun l=>if lab<=l/\l<lab+ls.length then (ls[l-lab]?).bind V1.σ else V.σ l⟩:aZ)=V2
 have out:∀ l,¬ (lab<=l/\l<lab+ls.length)->V2.β l=V.β l/\V2.σ l=V.σ l:=fun l hl=>by
  subst hV2;exact ⟨if_neg hl,if_neg hl⟩
 have inn:∀ i k,ls[i]?=some k->V2.β (lab+i)=V1.β k/\V2.σ (lab+i)=V1.σ k:=fun i k hk=>by
  have hi:=(List.getElem?_eq_some_iff.1 hk).1
  have hr:lab<=lab+i/\lab+i<lab+ls.length:=⟨by omega,by omega⟩
  subst hV2
  refine ⟨(if_pos hr).trans ?_,(if_pos hr).trans ?_⟩ <;> (rw [show lab+i-lab=i from by omega,hk];rfl)
 have bQ:V.ext lab V2:=by
  refine ⟨⟨fun l p hp=>?_,fun l p hp=>?_⟩,fun l hl=>out l (by omega)⟩
  .rw [(out l (fun hr=>by have:=(hf l hr.1 (by omega)).1;rw [this] at hp;cases hp)).1];exact hp
  .rw [(out l (fun hr=>by have:=(hf l hr.1 (by omega)).2;rw [this] at hp;cases hp)).2];exact hp
 have vL:vT (nm F lab ls) V1 V2:=by
  intro l l' hl
  unfold nm at hl
  split at hl
  .rename_i hb
   cases hl
   have hlF:l<F:=by simpa [Nat.blt_eq] using hb
   have pA:=hI.low l hlF
   rw [pA.1,pA.2]
   exact ⟨fun p hp=>bQ.1.1 l p hp,fun p hp=>bQ.1.2 l p hp⟩
  .split at hl
   .rename_i i hi
    cases hl
    obtain ⟨_,h2⟩:=wF hi
    have:=inn i l (by simpa using h2)
    rw [this.1,this.2]
    exact ⟨fun p hp=>hp,fun p hp=>hp⟩
   .cases hl
 refine ⟨bQ,yN vL hv hx,?_⟩
 have aSf:∀ l B,aY F T l=some B->T2 l=some B:=fun l B hl=>aK l B (lM hl).2
 refine aC.called hT2 aSf hI.eI bQ.1 (fun l=>if l∈s.ws then some l else if lab<=l/\l<lab+ls.length then ls[l-lab]? else (aY F T l).map fun _=>l) (fun l B hl=>?_) (fun l l' k hk iA=>?_)
 .unfold eG bL.eI at hl
  simp only at hl
  rw [cD] at hl
  cases hw:look l (pF s.ws wr) with
  | some b=>
    rw [hw] at hl
    cases hl
    obtain ⟨i,h1,h2⟩:=nQ hw
    obtain ⟨k,C,h3,h4,h5⟩:=hwg i _ h2
    rw [h1] at h3;cases h3
    have aJe:l∈s.ws:=List.mem_of_getElem? h1
    have zO:s.T (aY F T) l=some C:=by simp only [St.T,h4]
    have FO:nm F lab ls l=some l:=by
     unfold nm
     have:Nat.blt l F=true:=by simpa [Nat.blt_eq] using GN i l h1
     rw [this]
    obtain ⟨r1,r2,r3,r4⟩:=rY vL FO h5 (hI.eI.ok l C zO)
    refine .inl ⟨l,if_pos aJe,C,zO,r1,r2,r4,?_⟩
    rcases rX h5 with q | q
    .exact .inl q
    .exact .inr (.inl q)
  | none=>
    rw [hw] at hl
    have XD:=mA hwl hw
    rw [fL] at hl
    by_cases hr:lab<=l/\l<lab+ls.length
    .have cM:l-lab<new.length:=by rw [FP];omega
     rw [if_pos hr.1,List.getElem?_eq_getElem cM] at hl
     cases hl
     obtain ⟨k,C,h3,h4,h5⟩:=hng (l-lab) _ (List.getElem?_eq_getElem cM)
     have zO:s.T (aY F T) k=some C:=by simp only [St.T,h4]
     have FO:nm F lab ls k=some l:=by
      unfold nm
      have hb:Nat.blt k F=false:=by
       cases hb:Nat.blt k F with
       | false=>rfl
       | true=>have:=XG _ _ h3;have:k<F:=by simpa [Nat.blt_eq] using hb
               omega
      rw [hb]
      simp only
      cases VI:Gr k ls 0 with
      | none=>
        exfalso
        have:∀ (ms:List Nat) (i:Nat),Gr k ms i=none->k ∉ ms:=by
         intro ms
         induction ms with
         | nil=>intro i _;simp
         | cons a r ih=>
           intro i hi
           simp only [Gr] at hi
           split at hi
           .cases hi
           .rename_i hb
            have:=beq_false hb
            simp only [List.mem_cons,not_or]
            exact ⟨fun q=>this q.symm,ih _ hi⟩
        exact this ls 0 VI (List.mem_of_getElem? h3)
      | some i=>
        simp only
        obtain ⟨_,h6⟩:=wF VI
        have:=xG vH h3 (by simpa using h6)
        congr 1
        omega
     obtain ⟨r1,r2,r3,r4⟩:=rY vL FO h5 (hI.eI.ok k C zO)
     refine .inl ⟨k,(if_neg XD).trans ((if_pos hr).trans h3),C,zO,r1,r2,r4,?_⟩
     rcases rX h5 with q | q
     .exact .inl q
     .exact .inr (.inl q)
    .have Gc:(if lab<=l then new[l-lab]? else none)=none:=by
      split
      .apply List.getElem?_eq_none;rw [FP];omega
      .rfl
     rw [Gc] at hl
     simp only at hl
     cases hc:aY F T l with
     | none=>exact .inr ⟨(if_neg XD).trans ((if_neg hr).trans (rfl)),rfl,hl⟩
     | some B0=>
       have hB0:=aSf l B0 hc
       rw [hl] at hB0;cases hB0
       have hlF:=(lM hc).1
       have zO:s.T (aY F T) l=some B:=by simp only [St.T,hI.ch l hlF XD,hc]
       have bDb:=hI.eI.ok l B zO
       have aSc:=hT2.ok l B hl
       refine .inl ⟨l,(if_neg XD).trans ((if_neg hr).trans (rfl)),B,zO,?_,fun n hn=>?_,rfl,.inr (.inr hl)⟩
       .obtain ⟨cs,d1,d2⟩:=bDb
        obtain ⟨cs0,d3,_⟩:=aSc
        have:=SB.jF hI.le d3
        rw [d1] at this;cases this
        refine ⟨cs,SB.jF bQ.1 d3,?_⟩
        have e1:=(hI.low l hlF).1
        have e2:=(hI.low l hlF).2
        cases B with
        | own cells ty=>obtain ⟨b,hb,hh⟩:=d2;exact ⟨b,bQ.1.1 _ _ (e1 ▸ hb),hh⟩
        | ints k xs ty=>obtain ⟨b,hb,hh⟩:=d2;exact ⟨b,bQ.1.1 _ _ (e1 ▸ hb),hh⟩
        | eK vs ty=>obtain ⟨b,hb,hh⟩:=d2;exact ⟨b,bQ.1.1 _ _ (e1 ▸ hb),hh⟩
        | fS cells=>obtain ⟨b,o,hb,hh⟩:=d2;exact ⟨b,o,bQ.1.1 _ _ (e1 ▸ hb),hh⟩
        | nZ k xs=>obtain ⟨b,o,hb,hh⟩:=d2;exact ⟨b,o,bQ.1.1 _ _ (e1 ▸ hb),hh⟩
        | cS k xs ty=>obtain ⟨v,hv,hh⟩:=d2;exact ⟨v,bQ.1.2 _ _ (e2 ▸ hv),hh⟩
        | fX sz n ty=>obtain ⟨v,us,hv,hh⟩:=d2;exact ⟨v,us,bQ.1.2 _ _ (e2 ▸ hv),hh⟩
        | row sz cells ty=>obtain ⟨b,cap,cur,hb,hσ,r⟩:=d2;exact ⟨b,cap,cur,bQ.1.1 _ _ (e1 ▸ hb),bQ.1.2 _ _ (e2 ▸ hσ),r⟩
        | gL k xs=>obtain ⟨v,hv,hh⟩:=d2;exact ⟨v,bQ.1.2 _ _ (e2 ▸ hv),hh⟩
        | fM ds ty=>obtain ⟨v,us,hv,hh⟩:=d2;exact ⟨v,us,bQ.1.2 _ _ (e2 ▸ hv),hh⟩
        | jB pre k ds ty=>obtain ⟨b,cap,cur,hb,hσ,r⟩:=d2;exact ⟨b,cap,cur,bQ.1.1 _ _ (e1 ▸ hb),bQ.1.2 _ _ (e2 ▸ hσ),r⟩
        | eQ xs ty=>obtain ⟨v,hv,hh⟩:=d2;exact ⟨v,bQ.1.2 _ _ (e2 ▸ hv),hh⟩
        | rI xs=>obtain ⟨v,hv,hh⟩:=d2;exact ⟨v,bQ.1.2 _ _ (e2 ▸ hv),hh⟩
        | mI ds=>trivial
        | nU d=>trivial
        | gU ds z=>trivial
        | gone=>trivial
       .have h0:=aSc.uS bQ.1
        rw [h0] at hn
        exact SB.aQp hI.le hn
 .have zM:∀ (l k:Nat),(if l∈s.ws then some l else if lab<=l/\l<lab+ls.length then ls[l-lab]? else (aY F T l).map fun _=>l)=some k ->
   (k=l/\l<F)\/(lab<=l/\ls[l-lab]?=some k/\F<=k):=by
   intro l k hk
   split at hk
   .rename_i hm
    cases hk
    obtain ⟨i,hi,hie⟩:=List.getElem_of_mem hm
    exact .inl ⟨rfl,GN i l (by rw [List.getElem?_eq_getElem hi,hie])⟩
   .split at hk
    .rename_i hr
     exact .inr ⟨hr.1,hk,XG _ _ hk⟩
    .simp only [zzM] at hk
     obtain ⟨B,hB,rfl⟩:=hk
     exact .inl ⟨rfl,(lM hB).1⟩
  rcases zM l k hk with ⟨h1,h2⟩ | ⟨h1,h2,h3⟩ <;> rcases zM l' k iA with ⟨Gk,EY⟩ | ⟨Gk,EY,h3'⟩
  .omega
  .omega
  .omega
  .have:=xG vH h2 EY
   omega
theorem xE {Γ:Env} {B:bA} {F0 N:Nat}:∀ {l:List SV} {s s':St},lI Γ B F0 N l s=some s'->∀ q∈s.ob,q∈s'.ob
 | [],s,s',h,q,hq=>by simp only [lI,zzI] at h;subst h;exact hq
 | v::r,s,s',h,q,hq=>by
   unfold lI at h
   split at h
   .split at h
    .split at h
     .split at h
      .rename_i s1 h1
       have:=(St.cR B h1).2.2.1
       exact xE h q (by rw [this];exact List.mem_append_right _ hq)
      .cases h
     .cases h
    .cases h
   .cases h
theorem Er {P:Program} {Γ:Env} {w0:World} {M:Nat->Prop} {B:bA} {N F0:Nat} {V0:aZ} (aU:cK P Γ) {fn:Func} {R:Ending->World->Prop} {tmps:Array Value} :
 ∀ {l:List SV} {s s':St} {V:aZ} {a:Act} {w:World} {xs:List Value},lI Γ B F0 N l s=some s'->(∀ q∈s'.ob,q)->Inv P Γ w0 M B N F0 V0 s V a w->a.tmps=tmps->aG V l=some xs ->
   (∀ V' a' w',Inv P Γ w0 M B N F0 V0 s' V' a' w'->a'.tmps=tmps->∃ v,(results fn tmps).run P w' = .ok v w'/\R (.returned v) w')->Leaves P fn tmps R (xs.map toD) .returning w
 | [],s,s',V,a,w,xs,h,ho,hi,ha,hx,hQ=>by
   simp only [lI,zzI] at h
   subst h
   simp only [aG,zzI] at hx
   subst hx
   exact hQ V a w hi ha
 | v::r,s,s',V,a,w,xs,h,ho,hi,ha,hx,hQ=>by
   unfold lI at h
   split at h
   case h_2=>cases h
   rename_i id args Ki
   split at h
   case h_2=>cases h
   rename_i S hS
   split at h
   case h_2=>cases h
   rename_i e he
   split at h
   case h_2=>cases h
   rename_i s1 h1
   simp only [aG,zzM,zzB] at hx
   obtain ⟨x,hx,ys,hy,rfl⟩:=hx
   simp only [den,zzB,zzM] at hx
   obtain ⟨aS,has,cs,mK,rfl⟩:=hx
   have uA:∀ q∈e.bK,q:=fun q hq=>ho q (xE h q (by rw [(St.cR B h1).2.2.1];exact List.mem_append_left _ hq))
   simp only [List.map_cons,toD]
   refine aU.2.1 id S hS _ _ _ _ _ he uA w0 M V _ w _ (fun _ _ hl=>hl) hi.eI hi.aT hi.top.fresh (hi.top.mono (by omega)) (cH has mK) fn tmps _ R (fun V' w' hV hT=>?_) aS.toArray cs.toArray (by simp)
   have fW:=hi.step (a:=a) (x:=undef) h1 (zzr _) (zzr _) hV (fun hd=>by cases hd) hT
   exact Er aU h ho fW ha (dC hV.1 hy) hQ
theorem BV {Γ:Env} {B:bA} {F0 N:Nat} {s s':St} (h:lI Γ B F0 N [] s=some s'):s'=s:=by
 simp only [lI,zzI] at h;exact h.symm
theorem LI {o:Option St} {df:List SV} {s s2:St} (h:rdS false o df s=some s2):df=[]:=by
 unfold rdS at h
 split at h
 .rename_i h0;cases h0
 .split at h
  .rfl
  .cases h
theorem aMl {dd:Bool} {Γ:Env} {B:bA} {F0 N:Nat} {s s2:St} (h:rdS dd (lI Γ B F0 N s.df s) s.df s=some s2):lI Γ B F0 N s.df s=some s2:=by
 cases dd with
 | true=>exact h
 | false=>have:=LI h;unfold rdS at h;rw [this] at h |-;exact h
theorem Af {P:Program} {Γ:Env} (aR:cC P Γ) (aU:cK P Γ) (jO:P.follows .mixedOrders=true) {fn:Func} {dd:Bool} {hs:List Bool} {fuel:Nat} {vs:List SV} {T T2:bA} {lab F:Nat} {e:bL} {w0:World} {M:Nat->Prop} {V:aZ} {w:World} {xs:List Value}
 (h:aF Γ fn dd hs fuel vs T lab F=some e) (ho:∀ q∈e.bK,q) (aK:∀ l B,T l=some B->T2 l=some B) (hT:aC w0 M V T2 w) (hg:bO Γ V) (hf:V.fresh lab) (hF:V.top F) (hx:aG V vs=some xs)
 {R:Ending->World->Prop} (hR:∀ V' x w',V.ext lab V'->den V' e.val=some x->aC w0 M V' (eG T2 lab e) w'->R (.returned x) w') :
 ∃ c,fn.body=some c/\c.wp P (fun x a w=>bodyPostD P fn R x a w/\(dd=false->bodyPost P fn R x a w)) { tmps:=xs.toArray++Array.replicate (fn.ntmps-xs.toArray.size) undef,defers:=[] } w:=by
 unfold aF at h
 split at h
 case h_2=>cases h
 rename_i c g hb hn Bi
 split at h
 case h_2=>cases h
 rename_i s x hex
 have hn:=zzL hn
 have hlen:=bC hx
 have Ol:=zB Bi
 have mJ:xs.length=vs.length:=hlen
 have VJ:Inv P Γ w (kH V (aY F T)) (aY F T) fn.ntmps F V { g:=g,tb:=.lf,nx:=F,ws:=[],ob:=[],hs:=hs } V { tmps:=xs.toArray++Array.replicate (fn.ntmps-xs.toArray.size) undef,defers:=[] } w:=by
  refine ⟨fun t v hv=>?_,fun d v hv=>?_,?_,⟨[],rfl,rfl⟩,?_,hg,hF,V.le_refl,fun l _=>⟨rfl,rfl⟩,fun l _ _=>rfl,zzr _,fun l hl=>?_⟩
  .have:=Ol t
   simp only at hv
   rw [hv] at this
   split at this
   .rename_i hr
    obtain ⟨y,h1,h2⟩:=dZ hx t v (by simpa using this.symm)
    rw [h2]
    have cM:t<xs.length:=by omega
    have rA:xs[t]?=some y:=h1
    simp [Act.eval,Array.getD_eq_getD_getElem?,Array.getElem?_append,cM] at rA |-
    exact rA.symm
   .cases this
  .have:=Ol d
   simp only at hv
   rw [hv] at this
   split at this
   .omega
   .cases this
  .simp
   omega
  .have hp:=aC.part hT (T:=aY F T) (fun l B hl=>aK l B (lM hl).2)
   have:St.T (aY F T) { g:=g,tb:=.lf,nx:=F,ws:=[],ob:=[],hs:=hs }=aY F T:=by funext l;rfl
   rw [this]
   exact hp
  .show (match Tr.get .lf l with | some b=>some b | none=>aY F T l)=none
   simp only [Tr.lX]
   cases hc:aY F T l with
   | none=>rfl
   | some B=>have:=(lM hc).1;simp only at hl;omega
 have fin:∀ s2,rdS dd (lI Γ (aY F T) F fn.ntmps s.df s) s.df s=some s2->(match Cv Γ s2.g.get (s2.T (aY F T)) fn.results.toList with
   | some (ob,rs)=>finish F lab (s2.TQ ob) (res rs)
   | none=>none)=some e ->
   (∀ q∈s2.ob,q)/\∀ V' a' w',Inv P Γ w (kH V (aY F T)) (aY F T) fn.ntmps F V s2 V' a' w'->∃ v,(results fn a'.tmps).run P w' = .ok v w'/\R (.returned v) w':=by
  intro s2 h2 h3
  split at h3
  case h_2=>cases h3
  rename_i obr rs AM
  have FT:e.bK=obr++s2.ob:=by
   unfold finish at h3
   split at h3
   .cases h3
   .simp only at h3
    split at h3
    .cases h3;rfl
    .cases h3
  refine ⟨fun q hq=>ho q (FT ▸ List.mem_append_right _ hq),fun V' a' w' fW=>?_⟩
  obtain ⟨v,hv1,hv2⟩:=Fm (P:=P) (fn:=fn) aR fW.tmp fW.eI AM (fun q hq=>ho q (FT ▸ List.mem_append_left _ hq))
  obtain ⟨_,V2,k1,k2,k3⟩:=Jf hT aK hf (fW.TQ obr) hv1 h3
  exact ⟨v,hv2,hR V2 v w' k1 k2 k3⟩
 have main:∀ s2,x.to = .normal\/x.to = .ret->rdS dd (lI Γ (aY F T) F fn.ntmps s.df s) s.df s=some s2->(match Cv Γ s2.g.get (s2.T (aY F T)) fn.results.toList with
   | some (ob,rs)=>finish F lab (s2.TQ ob) (res rs)
   | none=>none)=some e->∃ c,fn.body=some c/\c.wp P (fun x a w=>bodyPostD P fn R x a w/\(dd=false->bodyPost P fn R x a w)) { tmps:=xs.toArray++Array.replicate (fn.ntmps-xs.toArray.size) undef,defers:=[] } w:=by
  intro s2 hxn h2 h3
  obtain ⟨uA,XK⟩:=fin s2 h2 h3
  have dS:=aMl h2
  refine ⟨c,hb,(aEo aR aU jO fuel).1 hex (fun q hq=>uA q (xE dS q hq)) VJ fun V' a' w' fW=>?_⟩
  obtain ⟨ys,iL,Hn⟩:=fW.defers
  have hl:Leaves P fn a'.tmps R a'.defers .returning w':=by
   rw [Hn]
   exact Er aU dS uA fW rfl iL fun V3 a3 w3 hi3 ha3=>by
    obtain ⟨v,q1,q2⟩:=XK V3 a3 w3 hi3
    exact ⟨v,ha3 ▸ q1,q2⟩
  have hp:dd=false->a'.defers=[]/\∃ v,(results fn a'.tmps).run P w' = .ok v w'/\R (.returned v) w':=by
   intro hD
   have hdf:s.df=[]:=LI (hD ▸ h2)
   rw [hdf] at iL dS
   simp only [aG,zzI] at iL
   subst iL
   have:=BV dS
   subst this
   exact ⟨Hn,XK V' a' w' fW⟩
  rcases hxn with q | q <;> (rw [q];exact ⟨hl,hp⟩)
 cases x with
 | exit id=>simp only at h;cases h
 | normal=>
   simp only at h
   split at h
   .rename_i s2 h2;exact main s2 (.inl rfl) h2 h
   .cases h
 | ret=>
   simp only at h
   split at h
   .rename_i s2 h2;exact main s2 (.inr rfl) h2 h
   .cases h
theorem hY {P:Program} {f:FuncId} {fn:Func} {c:Code} {args:Array Value} {w:World} (tJ:P.funcs[f]?=some fn) (hb:fn.body=some c) (dG:(fn.name == "runtime.NumGoroutine")=false):(callFunc f args).run P w = .ok (.enter f args) w:=by
 unfold callFunc
 have Au:¬ fn.name = "runtime.NumGoroutine" := by simpa using dG
 simp [tJ,hb,Au]
theorem aM {P:Program} {Γ:Env} (aR:cC P Γ) (aU:cK P Γ) (jO:P.follows .mixedOrders=true) {f:FuncId} {fn:Func} (tJ:P.funcs[f]?=some fn) (dG:(fn.name == "runtime.NumGoroutine")=false) (dd:Bool) (hs:List Bool) (fuel:Nat):aI P Γ f (aF Γ fn dd hs fuel):=by
 intro vs T lab F e h ho w0 M V T2 w xs aK hT hg hf hF hx o a K Q hK
 obtain ⟨c,hb,hwp⟩:=Af aR aU jO h ho aK hT hg hf hF hx (R:=fun
   | .returned v,UX=>K (a.put o.dst v) UX
   | .panicked chain,UX=>Q (.panic chain) a UX
   | .outgrown,_=>LetsOut Q) (fun V' x w' h1 h2 h3=>hK V' x w' h1 h2 h3)
 rw [hY tJ hb dG,Oper.upon_enter]
 exact calls_of_wp_defers tJ hb (wp_mono hwp fun x a w h=>h.1)
theorem Vk {P:Program} {Γ:Env} (aR:cC P Γ) (aU:cK P Γ) (jO:P.follows .mixedOrders=true) {f:FuncId} {fn:Func} (tJ:P.funcs[f]?=some fn) (dG:(fn.name == "runtime.NumGoroutine")=false) (hs:List Bool) (fuel:Nat):Ek P Γ f (aF Γ fn false hs fuel):=by
 intro vs T lab F e h ho w0 M V T2 w xs aK hT hg hf hF hx fn0 tmps ds R hK aS cs hac
 obtain ⟨c,hb,hwp⟩:=Af aR aU jO h ho aK hT hg hf hF hx (R:=fun e' UX=>match e' with
   | .returned _=>Leaves P fn0 tmps R ds .returning UX
   | _=>False) (fun V' x w' h1 _ h3=>hK V' w' h1 h3)
 have mJ:xs.toArray=aS++cs:=by apply Array.ext';simp [<- hac]
 refine leaves_cons (by simp) (f:=f) (args:=aS++cs) ?_ ?_
 .show (callFunc f (aS++cs)).run P w=_
  rw [hY tJ hb dG]
 .rw [<- mJ]
  refine (callsD_of_wp (u:=.returning) tJ hb (wp_mono hwp fun x a w h=>h.2 rfl)).mono fun e' u' w' h=>?_
  obtain ⟨rfl,h⟩:=h
  cases e' with
  | returned v=>exact h
  | panicked chain=>exact h.elim
  | outgrown=>exact h.elim
theorem aI.env {P:Program} {Γ Γ':Env} (h:Γ'.aT=Γ.aT) {f:FuncId} {S:Sum} (hs:aI P Γ f S):aI P Γ' f S:=
 fun vs T lab F e he ho w0 M V T2 w xs aK hT hg=>hs vs T lab F e he ho w0 M V T2 w xs aK hT (fun n l hn=>hg n l (h ▸ hn))
theorem Ek.env {P:Program} {Γ Γ':Env} (h:Γ'.aT=Γ.aT) {f:FuncId} {S:Sum} (hs:Ek P Γ f S):Ek P Γ' f S:=
 fun vs T lab F e he ho w0 M V T2 w xs aK hT hg=>hs vs T lab F e he ho w0 M V T2 w xs aK hT (fun n l hn=>hg n l (h ▸ hn))
noncomputable def Nj (P:Program) (aT:List (Nat × Nat)) (cmp:List Nat) (ex:Nat->Option Sum) (tw:List (Nat × Nat)) (fuel:Nat) (n:Nat):Env:=
 Nat.rec { ty:=tiP P,aT:=aT,sum:=ex,XX:=fun _=>none,cmp:=cmp }
  (fun _ Γ=>{ ty:=tiP P,aT:=aT,cmp:=cmp
              sum:=fun f=>match ex f with
               | some S=>some S
               | none=>match P.funcs[(look f tw).getD f]? with
                 | some fn=>some (aF Γ fn true [] fuel)
                 | none=>none
              XX:=fun f=>match P.funcs[f]? with
               | some fn=>some (aF Γ fn false [] fuel)
               | none=>none }) n
theorem qI {P:Program} {aT:List (Nat × Nat)} {cmp:List Nat} {ex:Nat->Option Sum} {tw:List (Nat × Nat)} {fuel n:Nat}:(Nj P aT cmp ex tw fuel n).ty=tiP P/\(Nj P aT cmp ex tw fuel n).aT=aT/\(Nj P aT cmp ex tw fuel n).cmp=cmp:=by
 cases n <;> exact ⟨rfl,rfl,rfl⟩
structure NA (P:Program) (aT:List (Nat × Nat)) (cmp:List Nat) (ex:Nat->Option Sum) (tw:List (Nat × Nat)):Prop where
 mix:P.follows .mixedOrders=true
 names:∀ (f:Nat) (fn:Func),P.funcs[f]?=some fn->(fn.name == "runtime.NumGoroutine")=false
 cmp:∀ t:Nat,cmp.elem t=true->(∀ i,P.info? t=some i->i.comparable=true)/\P.stoodInHeld t=false
 depth:∃ d,P.depth=d+2
 tw:∀ f g:Nat,look f tw=some g->∀ (args:Array Value) (w:World),(callFunc f args).run P w=(callFunc g args).run P w
 ex:∀ f S,ex f=some S->∀ Γ:Env,Γ.aT=aT->aI P Γ f S
theorem aFe {P:Program} {aT:List (Nat × Nat)} {cmp:List Nat} {ex:Nat->Option Sum} {tw:List (Nat × Nat)} (h:NA P aT cmp ex tw) (fuel:Nat):∀ n,cK P (Nj P aT cmp ex tw fuel n):=by
 intro n
 induction n with
 | zero=>exact ⟨fun f S hS=>h.ex f S hS _ rfl,fun f S hS=>(by cases hS),h.cmp,h.depth⟩
 | succ n ih=>
   refine ⟨fun f S hS=>?_,fun f S hS=>?_,h.cmp,h.depth⟩
   .have hS:(match ex f with
     | some S=>some S
     | none=>match P.funcs[(look f tw).getD f]? with
       | some fn=>some (aF (Nj P aT cmp ex tw fuel n) fn true [] fuel)
       | none=>none)=some S:=hS
    split at hS
    .rename_i S' hx;cases hS;exact h.ex f S hx _ rfl
    .split at hS
     .rename_i fn tJ
      cases hS
      have hs:=(aM (cC.prog qI.1) ih h.mix tJ (h.names _ fn tJ) true [] fuel).env (Γ':=Nj P aT cmp ex tw fuel (n+1)) (by rw [qI.2.1,qI.2.1])
      cases htw:look f tw with
      | none=>rw [htw] at hs;exact hs
      | some g=>
        rw [htw] at hs
        intro vs T lab F e he ho w0 M V T2 w xs aK hT hg hf hF hx o a K Q hK
        rw [h.tw f g htw]
        exact hs vs T lab F e he ho w0 M V T2 w xs aK hT hg hf hF hx o a K Q hK
     .cases hS
   .have hS:(match P.funcs[f]? with
      | some fn=>some (aF (Nj P aT cmp ex tw fuel n) fn false [] fuel)
      | none=>none)=some S:=hS
    split at hS
    .rename_i fn tJ
     cases hS
     exact (Vk (cC.prog qI.1) ih h.mix tJ (h.names f fn tJ) [] fuel).env (by rw [qI.2.1,qI.2.1])
    .cases hS
theorem cC.env {P:Program} {Γ Γ':Env} (h:Γ'.ty=Γ.ty) (hs:cC P Γ):cC P Γ':=fun t ti ht=>hs t ti (h ▸ ht)
def yJ (a b:Int):Bool:=match a,b with
 | .ofNat m,.ofNat n=>Nat.beq m n
 | .negSucc m,.negSucc n=>Nat.beq m n
 | _,_=>false
theorem Zy {a b:Int} (h:yJ a b=true):a=b:=by
 unfold yJ at h
 split at h
 .rw [zzN h]
 .rw [zzN h]
 .cases h
def pD (a b:IntKind):Bool:=decide (a=b)
def Sr (a b:Bool):Bool:=match a,b with
 | true,true=>true
 | false,false=>true
 | _,_=>false
theorem tD {a b:Bool} (h:Sr a b=true):a=b:=by cases a <;> cases b <;> first | rfl | cases h
mutual
def rE:SV->SV->Bool
 | .int s k n,.int s' k' n'=>Sr s s'&&(pD k k'&&yJ n n')
 | .bool s b,.bool s' b'=>Sr s s'&&Sr b b'
 | .agg vs,.agg us=>Nm vs us
 | .eP vs,.eP us=>Nm vs us
 | .ptr l s o,.ptr l' s' o'=>Nat.beq l l'&&(Sr s s'&&Nat.beq o o')
 | .aJ l s o n c,.aJ l' s' o' n' c'=>Nat.beq l l'&&(Sr s s'&&(Nat.beq o o'&&(Nat.beq n n'&&Nat.beq c c')))
 | _,_=>false
def Nm:List SV->List SV->Bool
 | [],[]=>true
 | v::r,u::t=>match rE v u with
   | true=>Nm r t
   | false=>false
 | _,_=>false
end
mutual
theorem aGa:∀ {v u:SV},rE v u=true->v=u
 | .int s k n,u,h=>by
   cases u <;> simp only [rE,zzn] at h <;> first | (cases h;done) | skip
   obtain ⟨h1,h2,h3⟩:=h
   rw [tD h1,zzD h2,Zy h3]
 | .bool s b,u,h=>by
   cases u <;> simp only [rE,zzn] at h <;> first | (cases h;done) | skip
   rw [tD h.1,tD h.2]
 | .agg vs,u,h=>by
   cases u <;> simp only [rE] at h <;> first | (cases h;done) | skip
   rw [Bz h]
 | .eP vs,u,h=>by
   cases u <;> simp only [rE] at h <;> first | (cases h;done) | skip
   rw [Bz h]
 | .ptr l s o,u,h=>by
   cases u <;> simp only [rE,zzn] at h <;> first | (cases h;done) | skip
   obtain ⟨h1,h2,h3⟩:=h
   rw [zzN h1,tD h2,zzN h3]
 | .aJ l s o n c,u,h=>by
   cases u <;> simp only [rE,zzn] at h <;> first | (cases h;done) | skip
   obtain ⟨h1,h2,h3,h4,h5⟩:=h
   rw [zzN h1,tD h2,zzN h3,zzN h4,zzN h5]
 | .fn ..,u,h=>by simp [rE] at h
 | .rG ..,u,h=>by simp [rE] at h
 | .raw ..,u,h=>by simp [rE] at h
 | .buf ..,u,h=>by simp [rE] at h
 | .jQ ..,u,h=>by simp [rE] at h
 | .Wn ..,u,h=>by simp [rE] at h
 | .nH ..,u,h=>by simp [rE] at h
 | .eH ..,u,h=>by simp [rE] at h
 | .ai ..,u,h=>by simp [rE] at h
 | .cQ ..,u,h=>by simp [rE] at h
theorem Bz:∀ {vs us:List SV},Nm vs us=true->vs=us
 | [],us,h=>by cases us <;> simp [Nm] at h |-
 | v::r,us,h=>by
   cases us with
   | nil=>simp [Nm] at h
   | cons u t=>
     simp only [Nm] at h
     split at h
     .rename_i h1;rw [aGa h1,Bz h]
     .cases h
end
mutual
def fH:SV->Bool
 | .int .. | .bool .. | .raw _ | .ai .. => true
 | .agg vs=>Oa vs
 | .eP vs=>Oa vs
 | _=>false
def Oa:List SV->Bool
 | []=>true
 | v::r=>match fH v with
   | true=>Oa r
   | false=>false
end
mutual
theorem nM {V V':aZ}:∀ {v:SV},fH v=true->den V v=den V' v
 | .int ..,_=>rfl
 | .bool ..,_=>rfl
 | .raw _,_=>rfl
 | .agg vs,h=>by simp only [den,Et (V:=V) (V':=V') (vs:=vs) h]
 | .eP vs,h=>by simp only [den,Et (V:=V) (V':=V') (vs:=vs) h]
 | .fn ..,h=>by cases h
 | .rG ..,h=>by cases h
 | .ptr ..,h=>by cases h
 | .aJ ..,h=>by cases h
 | .buf ..,h=>by cases h
 | .jQ ..,h=>by cases h
 | .Wn ..,h=>by cases h
 | .nH ..,h=>by cases h
 | .eH ..,h=>by cases h
 | .ai ..,_=>rfl
 | .cQ ..,h=>by cases h
theorem Et {V V':aZ}:∀ {vs:List SV},Oa vs=true->aG V vs=aG V' vs
 | [],_=>rfl
 | v::r,h=>by
   simp only [Oa] at h
   split at h
   .rename_i h1;simp only [aG,nM (V:=V) (V':=V') h1,Et (V:=V) (V':=V') h]
   .cases h
end
def orS (A B:Sum):Sum:=fun vs T lab F=>match A vs T lab F with
 | some e=>some e
 | none=>B vs T lab F
theorem LO {P:Program} {Γ:Env} {f:FuncId} {A B:Sum} (ha:aI P Γ f A) (hb:aI P Γ f B):aI P Γ f (orS A B):=by
 intro vs T lab F e he
 unfold orS at he
 split at he
 .rename_i e' h;cases he;exact ha vs T lab F _ h
 .exact hb vs T lab F e he
theorem sX {P:Program} {f g:FuncId} {fn fg:Func} {c:Code} {twin:String} (hf:P.funcs[f]?=some fn) (hg:P.funcs[g]?=some fg) (hb:fn.body=none) (hc:fg.body=some c)
 (hn:(fn.name == "runtime.NumGoroutine")=false) (UG:(fg.name == "runtime.NumGoroutine")=false) (he:Extern.findNext fn=some (Extern.Twins.call twin fn.params fn.resultTypes))
 (hi:P.funcs.findIdx? (·.name==twin)=some g) (hp:fg.params=fn.params) (hr:fg.resultTypes=fn.resultTypes) (args:Array Value) (w:World) :
 (callFunc f args).run P w=(callFunc g args).run P w:=by
 rw [hY hg hc UG]
 have Rc:¬ fn.name = "runtime.NumGoroutine" := by simpa using hn
 unfold callFunc
 simp [hf,hb,Rc,he,Extern.Twins.call,hi,hg,hp,hr,hc]
def yV (sub:Bool):Sum:=fun vs _ _ _=>match vs with
 | [.int sx .u64 x,.int sy .u64 y,.int sc .u64 c]=>match tM (sx&&(sy&&sc)) (0<=x/\0<=y/\0<=c/\c<=1) with
   | some l=>match sub with
     | false=>some { bK:=l,val:=.eP [.int (sx&&(sy&&sc)) .u64 ((x+y+c)%18446744073709551616),.int (sx&&(sy&&sc)) .u64 ((x+y+c)/18446744073709551616)] }
     | true=>some { bK:=l,val:=.eP [.int (sx&&(sy&&sc)) .u64 ((((x.toNat+18446744073709551616-y.toNat-c.toNat)%18446744073709551616:Nat):Int)),.int (sx&&(sy&&sc)) .u64 ((if x<y+c then 1 else 0))] }
   | none=>none
 | _=>none
def Td:Array Value->Sem Value:=fun args=>do
 let (x,y,b) <- Extern.MathBitsCarry.three "Sub64" args
 pure (Extern.MathBitsCarry.pair ((x+Extern.MathBitsCarry.m64-y-b)%Extern.MathBitsCarry.m64) (if x<y+b then 1 else 0))
theorem Uz {P:Program} (x y b:Nat) (hb:b<=1) (w:World) :
 (Td #[.int .u64 x,.int .u64 y,.int .u64 b]).run P w =
  .ok (.tuple #[.int .u64 (((x+18446744073709551616-y-b)%18446744073709551616:Nat):Int),.int .u64 ((if x<y+b then 1 else 0:Nat):Int)]) w:=by
 have:b=0\/b=1:=by omega
 rcases this with rfl | rfl <;> rfl
theorem Jm {P:Program} {Γ:Env} {f:FuncId} (sub:Bool)
 (dS:∀ (args:Array Value) (w:World),(callFunc f args).run P w=(do pure (.value (<- (match sub with | false=>add64Entry args | true=>Td args))):Sem Next).run P w):aI P Γ f (yV sub):=by
 intro vs T lab F e he ho w0 M V T2 w xs aK hT hg hf hF hx o a K Q hK
 unfold yV at he
 split at he
 case h_2=>cases he
 rename_i sx x sy y sc c
 split at he
 case h_2=>cases he
 rename_i l hl
 simp only [aG,den,zza,zzm,zzI] at hx
 subst hx
 have uA:∀ q∈l,q:=by cases sub <;> (simp only [zzI] at he;subst he;exact ho)
 obtain ⟨h1,h2,h3,h4⟩:=iG hl uA
 rw [dS]
 obtain ⟨x',rfl⟩:=zzT h1
 obtain ⟨y',rfl⟩:=zzT h2
 obtain ⟨c',rfl⟩:=zzT h3
 cases sub with
 | false=>
   simp only [zzI] at he
   subst he
   have:=run_add64 (P:=P) x' y' c' h1 h2 h3 h4 w
   simp only [Sem.run_bind,this,Result.andThen_ok,Sem.run_pure,Oper.upon_value]
   exact hK V _ w (V.cP lab) (by simp [den,aG]) (by rw [kI _ _ rfl rfl];exact hT)
 | true=>
   simp only [zzI] at he
   subst he
   have:=Uz (P:=P) x' y' c' (by omega) w
   simp only [Sem.run_bind,this,Result.andThen_ok,Sem.run_pure,Oper.upon_value]
   refine hK V _ w (V.cP lab) ?_ (by rw [kI _ _ rfl rfl];exact hT)
   have e1:(if (x':Int)<(y':Int)+(c':Int) then (1:Int) else 0)=((if x'<y'+c' then 1 else 0:Nat):Int):=by
    split <;> split <;> first | rfl | omega
   simp only [den,aG,zza,zzm,zzt,e1]
end Go.Proofs.YticicdfijghigaaGreatDoor.Sx
section
namespace Go.Proofs.YticicdfijghigaaGreatDoor.Sx
end Go.Proofs.YticicdfijghigaaGreatDoor.Sx
end
section
namespace Go.Proofs.YticicdfijghigaaGreatDoor.Sx
end Go.Proofs.YticicdfijghigaaGreatDoor.Sx
end
namespace Go.Proofs.YticicdfijghigaaGreatDoor.Sx
def aE (P:Program) (Γ:Env) (f:FuncId) (vs:List SV) (T:bA) (lab F:Nat) (e:bL):Prop:=
 ∀ (w0:World) (M:Nat->Prop) (V:aZ) (T2:bA) (w:World) (xs:List Value),
   (∀ l B,T l=some B->T2 l=some B)->aC w0 M V T2 w->bO Γ V->V.fresh lab->V.top F->aG V vs=some xs ->
   ∀ (o:Oper) (a:Act) K Q,(∀ V' x w',V.ext lab V'->den V' e.val=some x->aC w0 M V' (eG T2 lab e) w'->K (a.put o.dst x) w') ->
     o.upon P a K Q ((callFunc f xs.toArray).run P w)
theorem aI.call {P:Program} {Γ:Env} {f:FuncId} {S:Sum} (h:aI P Γ f S) {vs:List SV} {T:bA} {lab F:Nat} {e:bL} (he:S vs T lab F=some e) (ho:∀ q∈e.bK,q):aE P Γ f vs T lab F e:=h vs T lab F e he ho
theorem aI.OB {P:Program} {Γ:Env} {f:FuncId} {S:Sum} (h:∀ vs T lab F e,S vs T lab F=some e->(∀ q∈e.bK,q)->aE P Γ f vs T lab F e):aI P Γ f S:=h
inductive Src where
 | lab (l off:Nat)
 | val (v:SV)
 | Mq (v:SV) (cs:List SV)
abbrev Vw:=Nat->Option Src
def seen (vw:Vw) (V:aZ):aZ:=
 ⟨fun l0=>match vw l0 with
  | some (.lab l off)=>(V.β l).map fun p=>(p.1,p.2+off)
  | _=>none,
  fun l0=>match vw l0 with
   | some (.lab l _)=>V.σ l
   | some (.val v)=>den V v
   | some (.Mq v cs)=>(den V v).bind fun x=>(aG V cs).map fun us=>.tuple (x::us).toArray
   | none=>none⟩
theorem kE {vw:Vw} {V:aZ} {l0 l off:Nat} (h:vw l0=some (.lab l off)):(seen vw V).β l0=(V.β l).map (fun p=>(p.1,p.2+off))/\(seen vw V).σ l0=V.σ l:=by
 simp [seen,h]
theorem xD {vw:Vw} {V:aZ} {l0:Nat} {v:SV} (h:vw l0=some (.val v)):(seen vw V).σ l0=den V v:=by
 simp [seen,h]
def vI (vw:Vw) (F0 lab l0:Nat):Option Nat:=match Nat.blt l0 F0 with
 | true=>match vw l0 with
   | some (.lab l 0)=>some l
   | _=>none
 | false=>match Nat.blt l0 (F0+8) with
   | true=>some (lab+(l0-F0))
   | false=>none
def Nz (ρ : Nat->Option Nat):List SB->Option (List SB)
 | []=>some []
 | B::r=>match vJ ρ B,Nz ρ r with
   | some B,some r=>some (B::r)
   | _,_=>none
def Ny (ρ : Nat->Option Nat):List (Nat × SB)->Option (List (Nat × SB))
 | []=>some []
 | (l,B)::r=>match ρ l,vJ ρ B,Ny ρ r with
   | some l,some B,some r=>some ((l,B)::r)
   | _,_,_=>none
def Xu (ρ : Nat->Option Nat) (e:bL):Option bL:=match yA ρ e.val,Nz ρ e.new,Ny ρ e.wr with
 | some v,some n,some w=>some { bK:=e.bK,val:=v,new:=n,wr:=w }
 | _,_,_=>none
theorem It {ρ : Nat->Option Nat}:∀ {bs cs:List SB},Nz ρ bs=some cs->cs.length=bs.length/\∀ (i:Nat) (B:SB),cs[i]?=some B->∃ C,bs[i]?=some C/\vJ ρ C=some B
 | [],cs,h=>by simp only [Nz,zzI] at h;subst h;simp
 | b::r,cs,h=>by
   simp only [Nz] at h
   split at h
   .rename_i B' r' hB hr
    cases h
    obtain ⟨h1,h2⟩:=It hr
    refine ⟨by simp [h1],fun i B hi=>?_⟩
    cases i with
    | zero=>simp only [List.getElem?_cons_zero,zzI] at hi;subst hi;exact ⟨b,rfl,hB⟩
    | succ i=>simpa using h2 i B (by simpa using hi)
   .cases h
def An (ρ : Nat->Option Nat) (l:Nat):List (Nat × SB)->Option Nat
 | []=>none
 | (k,_)::r=>if ρ k=some l then some k else An ρ l r
theorem Bn {ρ : Nat->Option Nat} {l:Nat}:∀ {r:List (Nat × SB)} {k:Nat},An ρ l r=some k -> ρ k=some l
 | [],k,h=>by cases h
 | (j,B)::r,k,h=>by
   simp only [An] at h
   split at h
   .rename_i hj;cases h;exact hj
   .exact Bn h
theorem Is {ρ : Nat->Option Nat} {l:Nat}:∀ {r s:List (Nat × SB)},Ny ρ r=some s ->
 (∀ B,look l s=some B->∃ k C,An ρ l r=some k/\look k r=some C/\vJ ρ C=some B)/\(look l s=none->An ρ l r=none)
 | [],s,h=>by simp only [Ny,zzI] at h;subst h;exact ⟨fun B hB=>(by simp [look] at hB),fun _=>rfl⟩
 | (k,C)::r,s,h=>by
   simp only [Ny] at h
   split at h
   .rename_i l' B' r' h1 h2 h3
    cases h
    obtain ⟨i1,i2⟩:=Is (l:=l) h3
    by_cases e:l'=l
    .subst e
     refine ⟨fun B hB=>?_,fun hn=>?_⟩
     .rw [aH] at hB
      cases hB
      exact ⟨k,C,by simp [An,h1],aH _ _ _,h2⟩
     .rw [aH] at hn;cases hn
    .have hk : ρ k≠some l:=by rw [h1];exact fun q=>e (by cases q;rfl)
     refine ⟨fun B hB=>?_,fun hn=>?_⟩
     .rw [aD e] at hB
      obtain ⟨k2,C2,j1,j2,j3⟩:=i1 B hB
      have dG:k≠k2:=fun q=>hk (q ▸ Bn j1)
      exact ⟨k2,C2,by simp [An,hk,j1],by rw [aD dG];exact j2,j3⟩
     .rw [aD e] at hn
      simp [An,hk,i2 hn]
   .cases h
structure ND (vw:Vw) (vs:List SV) (T:bA) (eN:List SV) (T0:List (Nat × SB)) (V:aZ) (w:World):Prop where
 val:∀ xs,aG V vs=some xs->aG (seen vw V) eN=some xs
 ok:∀ l0 B0,look l0 T0=some B0->okB (seen vw V) w l0 B0
 jX:∀ l0 B0 l1 B1 n,l0≠l1->look l0 T0=some B0->look l1 T0=some B1->B0.owned=true->B0.aN (seen vw V) l0=some n->B1.aN (seen vw V) l1≠some n
 own:∀ l0 B0 n,look l0 T0=some B0->B0.owned=true->B0.aN (seen vw V) l0=some n->∃ l B,vw l0=some (.lab l 0)/\T l=some B/\B.owned=true/\B.aN V l=some n
 tV:∀ M':Nat->Prop,(∀ n,M' n->∃ l0 B0 l B,look l0 T0=some B0/\B0.owned=true/\vw l0=some (.lab l 0)/\T l=some B/\B.owned=true/\B.aN V l=some n)->∀ l0 B0,look l0 T0=some B0->lG w M' (seen vw V) l0 B0
def aRa (P:Program) (f:FuncId) (xs:List Value) (T2:bA) (lab:Nat) (e:bL) (w0:World) (M:Nat->Prop) (V:aZ) (w:World):Prop:=
 ∀ (o:Oper) (a:Act) K Q,(∀ V' x w',V.ext lab V'->den V' e.val=some x->aC w0 M V' (eG T2 lab e) w'->K (a.put o.dst x) w')->o.upon P a K Q ((callFunc f xs.toArray).run P w)
theorem TF {P:Program} {Γ:Env} {f:FuncId} {vs eN:List SV} {T:bA} {T0:List (Nat × SB)} {F0 lab:Nat} {e0 e:bL} {vw:Vw} (hC:aE P Γ f eN (fun l=>look l T0) F0 F0 e0)
 (AJ:∀ l0,F0<=l0->vw l0=none) (AN:∀ n l,look n Γ.aT=some l->vw l=some (.lab l 0))
 (fN:∀ l0 B0,look l0 T0=some B0->B0.owned=true->l0<F0/\look l0 e0.wr≠none)
 (hlen:e0.new.length<=8) (AI:∀ l0 B0,look l0 e0.wr=some B0->l0<F0)
 (he:Xu (vI vw F0 lab) e0=some e) {w0:World} {M:Nat->Prop} {V:aZ} {T2:bA} {w:World} {xs:List Value}
 (aK:∀ l B,T l=some B->T2 l=some B) (hT:aC w0 M V T2 w) (hg:bO Γ V) (hf:V.fresh lab) (hx:aG V vs=some xs) (fit:ND vw vs T eN T0 V w):aRa P f xs T2 lab e w0 M V w:=by
 intro o a K Q hK
 unfold Xu at he
 split at he
 case h_2=>cases he
 rename_i v' new wr hv GQ bCq
 cases he
 obtain ⟨FP,hng⟩:=It GQ
 obtain ⟨Th,hTh⟩:∃ Th:bA,Th=fun l=>open Classical in if ∃ l0 B0,look l0 T0=some B0/\B0.owned=true/\vw l0=some (.lab l 0) then T l else none:=⟨_,rfl⟩
 have bDt:∀ l B,Th l=some B->T2 l=some B:=fun l B hl=>by
  rw [hTh] at hl
  simp only at hl
  split at hl
  .exact aK l B hl
  .cases hl
 have aHp:∀ l0,F0<=l0->(seen vw V).β l0=none/\(seen vw V).σ l0=none:=fun l0 h=>by simp [seen,AJ l0 h]
 have Ke:aC w (kH V Th) (seen vw V) (fun l=>look l T0) w:=by
  refine ⟨fun l B hl=>fit.ok l B hl,fun l B l' B' n dG hl sP ho hb=>fit.jX l B l' B' n dG hl sP ho hb,fun l B n hl ho hb=>.inr ?_,fO.refl w _,fit.tV _ fun n ⟨l1,B1,h1,h2,h3⟩=>?_⟩
  .obtain ⟨l1,B1,h1,h2,h3,h4⟩:=fit.own l B n hl ho hb
   refine ⟨l1,B1,?_,h3,h4⟩
   rw [hTh]
   simp only
   rw [if_pos ⟨l,B,hl,ho,h1⟩]
   exact h2
  .rw [hTh] at h1
   simp only at h1
   split at h1
   .rename_i hex
    obtain ⟨l0,B0,a1,a2,a3⟩:=hex
    exact ⟨l0,B0,l1,B1,a1,a2,a3,h1,h2,h3⟩
   .cases h1
 refine hC w (kH V Th) (seen vw V) (fun l=>look l T0) w xs (fun _ _ h=>h) Ke (fun n l hl=>?_) (fun l h1 h2=>aHp l h1) (fun l h1=>aHp l h1) (fit.val xs hx) o a K Q (fun V' x w' Rf hx' oZ=>?_)
 .rw [(kE (AN n l hl)).1,hg n l hl];rfl
 obtain ⟨V2,hV2⟩:∃ V2:aZ,V2=⟨fun l=>if lab<=l/\l<lab+8 then V'.β (F0+(l-lab)) else V.β l,fun l=>if lab<=l/\l<lab+8 then V'.σ (F0+(l-lab)) else V.σ l⟩:=⟨_,rfl⟩
 have out:∀ l,¬ (lab<=l/\l<lab+8)->V2.β l=V.β l/\V2.σ l=V.σ l:=fun l hl=>by
  subst hV2;exact ⟨if_neg hl,if_neg hl⟩
 have inn:∀ i,i<8->V2.β (lab+i)=V'.β (F0+i)/\V2.σ (lab+i)=V'.σ (F0+i):=fun i hi=>by
  have hr:lab<=lab+i/\lab+i<lab+8:=⟨by omega,by omega⟩
  subst hV2
  refine ⟨(if_pos hr).trans ?_,(if_pos hr).trans ?_⟩ <;> rw [show lab+i-lab=i from by omega]
 have bQ:V.ext lab V2:=by
  refine ⟨⟨fun l p hp=>?_,fun l p hp=>?_⟩,fun l hl=>out l (by omega)⟩
  .rw [(out l (fun hr=>by have:=(hf l hr.1 (by omega)).1;rw [this] at hp;cases hp)).1];exact hp
  .rw [(out l (fun hr=>by have:=(hf l hr.1 (by omega)).2;rw [this] at hp;cases hp)).2];exact hp
 have vL:vT (vI vw F0 lab) V' V2:=by
  intro l l' hl
  unfold vI at hl
  split at hl
  .rename_i hb
   have hlF:l<F0:=by simpa [Nat.blt_eq] using hb
   split at hl
   .rename_i l1 hq
    cases hl
    have h0:=Rf.2 l (.inl hlF)
    have h1:=kE (V:=V) hq
    rw [h0.1,h0.2,h1.1,h1.2]
    refine ⟨fun p hp=>?_,fun v hv=>bQ.1.2 _ v hv⟩
    simp only [zzM] at hp
    obtain ⟨q,Bf,rfl⟩:=hp
    exact bQ.1.1 _ _ Bf
   .cases hl
  .split at hl
   .rename_i rH lR
    cases hl
    have h1:F0<=l:=by
     apply Nat.le_of_not_lt
     intro q
     have q2:Nat.blt l F0=true:=by simpa [Nat.blt_eq] using q
     simp_all
    have h2:l<F0+8:=by simpa [Nat.blt_eq] using lR
    have:=inn (l-F0) (by omega)
    rw [show F0+(l-F0)=l from by omega] at this
    rw [this.1,this.2]
    exact ⟨fun p hp=>hp,fun p hp=>hp⟩
   .cases hl
 refine hK V2 x w' bQ (yN vL hv hx') ?_
 refine aC.called hT bDt oZ bQ.1 (fun l=>match An (vI vw F0 lab) l e0.wr with
  | some k=>some k
  | none=>if lab<=l/\l<lab+e0.new.length then some (F0+(l-lab)) else none) (fun l B hl=>?_) (fun l l' k hk iA=>?_)
 .unfold eG bL.eI at hl
  simp only at hl
  rw [cD] at hl
  obtain ⟨g1,g2⟩:=Is (l:=l) bCq
  cases hw:look l wr with
  | some b=>
    rw [hw] at hl
    cases hl
    obtain ⟨k,C,h1,h2,h3⟩:=g1 _ hw
    have zO:eG (fun l=>look l T0) F0 e0 k=some C:=by
     unfold eG bL.eI
     rw [cD,h2]
    obtain ⟨r1,r2,r3,r4⟩:=rY vL (Bn h1) h3 (oZ.ok k C zO)
    refine .inl ⟨k,by simp only [h1],C,zO,r1,r2,r4,?_⟩
    rcases rX h3 with q | q
    .exact .inl q
    .exact .inr (.inl q)
  | none=>
    rw [hw] at hl
    have Hp:=g2 hw
    rw [fL] at hl
    by_cases hr:lab<=l/\l<lab+e0.new.length
    .have cM:l-lab<new.length:=by rw [FP];omega
     rw [if_pos hr.1,List.getElem?_eq_getElem cM] at hl
     cases hl
     obtain ⟨C,h3,h4⟩:=hng (l-lab) _ (List.getElem?_eq_getElem cM)
     have zO:eG (fun l=>look l T0) F0 e0 (F0+(l-lab))=some C:=by
      unfold eG bL.eI
      rw [cD]
      cases hq:look (F0+(l-lab)) e0.wr with
      | some b=>have:=AI _ b hq;omega
      | none=>
        simp only
        rw [fL,if_pos (by omega),show F0+(l-lab)-F0=l-lab from by omega,h3]
     have aJd:vI vw F0 lab (F0+(l-lab))=some l:=by
      unfold vI
      have b1:Nat.blt (F0+(l-lab)) F0=false:=by
       cases hb:Nat.blt (F0+(l-lab)) F0 with
       | false=>rfl
       | true=>have:F0+(l-lab)<F0:=by simpa [Nat.blt_eq] using hb
               omega
      have b2:Nat.blt (F0+(l-lab)) (F0+8)=true:=by simp [Nat.blt_eq];omega
      rw [b1,b2]
      simp only
      congr 1
      omega
     obtain ⟨r1,r2,r3,r4⟩:=rY vL aJd h4 (oZ.ok _ C zO)
     refine .inl ⟨F0+(l-lab),by simp only [Hp,if_pos hr],C,zO,r1,r2,r4,?_⟩
     rcases rX h4 with q | q
     .exact .inl q
     .exact .inr (.inl q)
    .have Gc:(if lab<=l then new[l-lab]? else none)=none:=by
      split
      .apply List.getElem?_eq_none;rw [FP];omega
      .rfl
     rw [Gc] at hl
     simp only at hl
     refine .inr ⟨by simp only [Hp,if_neg hr],?_,hl⟩
     rw [hTh]
     simp only
     split
     .rename_i hex
      obtain ⟨l0,B0,h1,h2,h3⟩:=hex
      obtain ⟨cM,hnn⟩:=fN l0 B0 h1 h2
      have aJd:vI vw F0 lab l0=some l:=by
       unfold vI
       have b1:Nat.blt l0 F0=true:=by simpa [Nat.blt_eq] using cM
       simp only [b1,h3]
      exfalso
      have:∀ {r:List (Nat × SB)},look l0 r≠none->An (vI vw F0 lab) l r≠none:=by
       intro r
       induction r with
       | nil=>intro h;exact (h rfl).elim
       | cons p r ih=>
         obtain ⟨k,C⟩:=p
         intro h
         simp only [An]
         split
         .simp
         .rename_i dG
          refine ih ?_
          by_cases e:k=l0
          .subst e;exact (dG aJd).elim
          .rwa [aD e] at h
      exact this hnn Hp
     .rfl
 .have zM:∀ (l k:Nat),(match An (vI vw F0 lab) l e0.wr with
    | some k=>some k
    | none=>if lab<=l/\l<lab+e0.new.length then some (F0+(l-lab)) else none)=some k->vI vw F0 lab k=some l:=by
   intro l k hk
   split at hk
   .rename_i k' iA
    cases hk
    exact Bn iA
   .split at hk
    .rename_i hr
     cases hk
     unfold vI
     have b1:Nat.blt (F0+(l-lab)) F0=false:=by
      cases hb:Nat.blt (F0+(l-lab)) F0 with
      | false=>rfl
      | true=>have:F0+(l-lab)<F0:=by simpa [Nat.blt_eq] using hb
              omega
     have b2:Nat.blt (F0+(l-lab)) (F0+8)=true:=by simp [Nat.blt_eq];omega
     rw [b1,b2]
     simp only
     congr 1
     omega
    .cases hk
  have e1:=zM l k hk
  have e2:=zM l' k iA
  rw [e1] at e2
  cases e2
  rfl
theorem TE {P:Program} {Γ:Env} {f:FuncId} {vs eN:List SV} {T:bA} {T0:List (Nat × SB)} {F0 lab F:Nat} {e0 e:bL} {vw:Vw} (hC:aE P Γ f eN (fun l=>look l T0) F0 F0 e0)
 (AJ:∀ l0,F0<=l0->vw l0=none) (AN:∀ n l,look n Γ.aT=some l->vw l=some (.lab l 0))
 (bDl:∀ w0 M V w xs,aC w0 M V T w->aG V vs=some xs->ND vw vs T eN T0 V w)
 (fN:∀ l0 B0,look l0 T0=some B0->B0.owned=true->l0<F0/\look l0 e0.wr≠none)
 (hlen:e0.new.length<=8) (AI:∀ l0 B0,look l0 e0.wr=some B0->l0<F0)
 (he:Xu (vI vw F0 lab) e0=some e):aE P Γ f vs T lab F e:=by
 intro w0 M V T2 w xs aK hT hg hf _ hx
 exact TF hC AJ AN fN hlen AI he aK hT hg hf hx (bDl _ _ V w xs (aC.part hT aK) hx)
inductive Fr where
 | seq (y:Code)
 | aN (id:Nat)
 | loop (n:Nat) (c:Code)
 | scope
inductive Cf where
 | go (c:Code)
 | at (x:Ex)
def KQ (P:Program):List Fr->(Exit->Act->World->Prop)->Exit->Act->World->Prop
 | [],Q=>Q
 | .seq y::K,Q=>Exit.then (y.wp P (KQ P K Q)) (KQ P K Q)
 | .aN id::K,Q=>Exit.inBlock id (KQ P K Q)
 | .loop n c::K,Q=>Exit.then (Code.rounds P c (KQ P K Q) n) (KQ P K Q)
 | .scope::K,Q=>Exit.noGoto (KQ P K Q)
def GX:Code->Nat
 | .region n _ _=>n
 | .seq x _=>GX x
 | .block _ c=>GX c
 | .loop c=>GX c
 | .scope c=>GX c
 | _=>0
structure oY where
 cf:Cf
 fr:List Fr
 st:St
noncomputable def Hz (Γ:Env) (B:bA) (F0 N:Nat) (stops:List Nat) (lf:Nat) (rec:Cf->List Fr->St->Option oY) (cf:Cf) (K:List Fr) (s:St):Option oY:=
 match cf with
 | .at x=>match K with
   | []=>some ⟨.at x,[],s⟩
   | .seq y::K=>match x with
     | .normal=>rec (.go y) K s
     | x=>rec (.at x) K s
   | .aN id::K=>match x with
     | .exit Ms=>match Nat.beq Ms id with
       | true=>rec (.at .normal) K s
       | false=>rec (.at (.exit Ms)) K s
     | x=>rec (.at x) K s
   | .loop n c::K=>match x with
     | .normal=>match n with
       | m+1=>rec (.go c) (.loop m c::K) s
       | 0=>none
     | x=>rec (.at x) K s
   | .scope::K=>rec (.at x) K s
 | .go c=>match c with
   | .skip=>rec (.at .normal) K s
   | .label _=>rec (.at .normal) K s
   | .region _ ops d=>match d with
     | true=>match Ii Γ B F0 N ops s with
       | some s'=>rec (.at .normal) K s'
       | none=>none
     | false=>match Jz Γ B F0 N ops ops.toList s with
       | some s'=>rec (.at .normal) K s'
       | none=>none
   | .seq x y=>rec (.go x) (.seq y::K) s
   | .cond c x y=>match ev Γ s.g.get c with
     | some (.bool true true)=>rec (.go x) K s
     | some (.bool true false)=>rec (.go y) K s
     | some (.bool false b)=>match s.hs with
       | true::r=>rec (.go x) K { s with ob:=(b=true)::s.ob,hs:=r }
       | false::r=>rec (.go y) K { s with ob:=(b=false)::s.ob,hs:=r }
       | []=>none
     | _=>none
   | .block id c=>rec (.go c) (.aN id::K) s
   | .loop c=>match stops.elem (GX c) with
     | true=>some ⟨.go (.loop c),K,s⟩
     | false=>rec (.go c) (.loop lf c::K) s
   | .exit id=>rec (.at (.exit id)) K s
   | .ret=>rec (.at .ret) K s
   | .scope c=>rec (.go c) (.scope::K) s
   | _=>none
noncomputable def gV (Γ:Env) (B:bA) (F0 N:Nat) (stops:List Nat) (lf n:Nat):Cf->List Fr->St->Option oY:=
 Nat.rec (fun cf K s=>some ⟨cf,K,s⟩) (fun _ ih=>Hz Γ B F0 N stops lf ih) n
def G (P:Program) (Γ:Env) (w0:World) (M:Nat->Prop) (B:bA) (N F0:Nat) (V0:aZ) (cf:Cf) (K:List Fr) (s:St) (Q:Exit->Act->World->Prop):Prop:=
 ∀ V a w,Inv P Γ w0 M B N F0 V0 s V a w->match cf with
   | .go c=>c.wp P (KQ P K Q) a w
   | .at x=>KQ P K Q x.to a w
section
variable {P:Program} {Γ:Env} {w0:World} {M:Nat->Prop} {B:bA} {N F0:Nat} {V0:aZ}
theorem Inv.hints {s:St} {V:aZ} {a:Act} {w:World} (hi:Inv P Γ w0 M B N F0 V0 s V a w) (ob:List Prop) (hs:List Bool):Inv P Γ w0 M B N F0 V0 { s with ob:=ob,hs:=hs } V a w:=
 ⟨hi.tmp,hi.keys,hi.size,hi.defers,hi.eI,hi.aT,hi.top,hi.le,hi.low,hi.ch,hi.nx,hi.hi⟩
theorem Br {stops:List Nat} {lf:Nat}:∀ {n:Nat} {cf:Cf} {K:List Fr} {s:St} {r:oY},gV Γ B F0 N stops lf n cf K s=some r->∀ q∈s.ob,q∈r.st.ob:=by
 intro n
 induction n with
 | zero=>intro cf K s r h q hq;cases h;exact hq
 | succ n ih=>
   intro cf K s r h q hq
   have h:Hz Γ B F0 N stops lf (gV Γ B F0 N stops lf n) cf K s=some r:=h
   unfold Hz at h
   split at h
   .split at h
    .cases h;exact hq
    .split at h <;> exact ih h q hq
    .split at h
     .split at h <;> exact ih h q hq
     .exact ih h q hq
    .split at h
     .split at h
      .exact ih h q hq
      .cases h
     .exact ih h q hq
    .exact ih h q hq
   .split at h
    .exact ih h q hq
    .exact ih h q hq
    .split at h
     .split at h
      .rename_i s1 h1;exact ih h q (Qd h1 q hq)
      .cases h
     .split at h
      .rename_i s1 h1;exact ih h q (wC h1 q hq)
      .cases h
    .exact ih h q hq
    .split at h
     .exact ih h q hq
     .exact ih h q hq
     .split at h
      .exact ih h q (zzO _ hq)
      .exact ih h q (zzO _ hq)
      .cases h
     .cases h
    .exact ih h q hq
    .split at h
     .cases h;exact hq
     .exact ih h q hq
    .exact ih h q hq
    .exact ih h q hq
    .exact ih h q hq
    .cases h
theorem G.run (aR:cC P Γ) (aU:cK P Γ) (jO:P.follows .mixedOrders=true) {stops:List Nat} {lf:Nat} {Q:Exit->Act->World->Prop}:∀ {n:Nat} {cf:Cf} {K:List Fr} {s:St} {r:oY},
 gV Γ B F0 N stops lf n cf K s=some r->(∀ q∈r.st.ob,q)->G P Γ w0 M B N F0 V0 r.cf r.fr r.st Q->G P Γ w0 M B N F0 V0 cf K s Q:=by
 intro n
 induction n with
 | zero=>intro cf K s r h ho hr;cases h;exact hr
 | succ n ih=>
   intro cf K s r h ho hr V a w hi
   have h:Hz Γ B F0 N stops lf (gV Γ B F0 N stops lf n) cf K s=some r:=h
   cases cf with
   | «at» x=>
     cases K with
     | nil=>cases h;exact hr V a w hi
     | cons fr K'=>
       cases fr with
       | seq y=>cases x <;> exact ih h ho hr V a w hi
       | aN id=>
         cases x with
         | normal=>exact ih h ho hr V a w hi
         | ret=>exact ih h ho hr V a w hi
         | exit Ms=>
           simp only [Hz] at h
           split at h
           .rename_i hb
            have:=ih h ho hr V a w hi
            show (if Ms=id then KQ P K' Q .normal a w else KQ P K' Q (.exit Ms) a w)
            rw [if_pos (zzN hb)]
            exact this
           .rename_i hb
            have:=ih h ho hr V a w hi
            show (if Ms=id then KQ P K' Q .normal a w else KQ P K' Q (.exit Ms) a w)
            rw [if_neg (beq_false hb)]
            exact this
       | loop m c=>
         cases x with
         | normal=>
           cases m with
           | zero=>cases h
           | succ m'=>exact ih h ho hr V a w hi
         | ret=>exact ih h ho hr V a w hi
         | exit Ms=>exact ih h ho hr V a w hi
       | scope=>
         have:=ih h ho hr V a w hi
         cases x <;> exact this
   | go c=>
     simp only [Hz] at h
     split at h
     .exact wp_skip (ih h ho hr V a w hi)
     .exact wp_label (ih h ho hr V a w hi)
     .split at h
      .split at h
       .rename_i s1 h1
        exact Qc aR aU jO h1 (fun q hq=>ho q (Br h q hq)) hi fun V' a' w' fW=>ih h ho hr V' a' w' fW
       .cases h
      .split at h
       .rename_i s1 h1
        exact wp_region_list (wB aR aU h1 (fun q hq=>ho q (Br h q hq)) hi fun V' a' w' fW=>ih h ho hr V' a' w' fW)
       .cases h
     .exact wp_seq (ih h ho hr V a w hi)
     .split at h
      .rename_i hc
       have hc:=bG hi.tmp hi.aT hc
       simp only [den,zzI] at hc
       exact wp_cond_true hc.symm (ih h ho hr V a w hi)
      .rename_i hc
       have hc:=bG hi.tmp hi.aT hc
       simp only [den,zzI] at hc
       exact wp_cond_false hc.symm (ih h ho hr V a w hi)
      .rename_i b hc
       have hc:=bG hi.tmp hi.aT hc
       simp only [den,zzI] at hc
       split at h
       .have hb:b=true:=ho _ (Br h _ zzC)
        rw [hb] at hc
        exact wp_cond_true hc.symm (ih h ho hr V a w (hi.hints _ _))
       .have hb:b=false:=ho _ (Br h _ zzC)
        rw [hb] at hc
        exact wp_cond_false hc.symm (ih h ho hr V a w (hi.hints _ _))
       .cases h
      .cases h
     .exact wp_block (ih h ho hr V a w hi)
     .split at h
      .cases h;exact hr V a w hi
      .exact wp_loop_rounds (lf+1) (ih h ho hr V a w hi)
     .exact wp_exit (ih h ho hr V a w hi)
     .exact wp_ret (ih h ho hr V a w hi)
     .exact wp_scope_straight (ih h ho hr V a w hi)
     .cases h
theorem G.loop {L:Code} {K:List Fr} {Q:Exit->Act->World->Prop} (S:Nat->St->Prop) {r0:Nat} {s0:St} (h0:S r0 s0)
 (aOd:∀ r s,S r s->G P Γ w0 M B N F0 V0 (.go L) [] s (Exit.then (fun a w=>∃ r',r'<r/\∃ s',S r' s'/\∃ V,Inv P Γ w0 M B N F0 V0 s' V a w) (KQ P K Q))) :
 G P Γ w0 M B N F0 V0 (.go (.loop L)) K s0 Q:=by
 intro V a w hi
 refine wp_loop_ghost (fun r a w=>∃ s,S r s/\∃ V,Inv P Γ w0 M B N F0 V0 s V a w) r0 ⟨s0,h0,V,hi⟩ ?_
 rintro r a w ⟨s,hs,V,hi⟩
 exact aOd r s hs V a w hi
theorem G.again {K:List Fr} {Q:Exit->Act->World->Prop} {S:Nat->St->Prop} {r:Nat} {s:St}
 (h:∀ V a w,Inv P Γ w0 M B N F0 V0 s V a w->∃ r',r'<r/\∃ s',S r' s'/\∃ V,Inv P Γ w0 M B N F0 V0 s' V a w) :
 G P Γ w0 M B N F0 V0 (.at .normal) [] s (Exit.then (fun a w=>∃ r',r'<r/\∃ s',S r' s'/\∃ V,Inv P Γ w0 M B N F0 V0 s' V a w) (KQ P K Q)):=
 fun V a w hi=>h V a w hi
theorem G.leave {K:List Fr} {Q:Exit->Act->World->Prop} {J:Act->World->Prop} {x:Ex} {s:St} (hx:x ≠ .normal) (h:G P Γ w0 M B N F0 V0 (.at x) K s Q) :
 G P Γ w0 M B N F0 V0 (.at x) [] s (Exit.then J (KQ P K Q)):=by
 intro V a w hi
 have:=h V a w hi
 cases x with
 | normal=>exact (hx rfl).elim
 | exit id=>exact this
 | ret=>exact this
end
def mB (ρ : Nat->Option Nat):SB->Option SB
 | .gL k xs=>some (.gL k xs)
 | .mI ds=>some (.mI ds)
 | .nU d=>some (.nU d)
 | .gU ds z=>some (.gU ds z)
 | .rI xs=>some (.rI xs)
 | .fM ds ty=>some (.fM ds ty)
 | B=>vJ ρ B
theorem Iv {ρ : Nat->Option Nat} {V V':aZ} (h:vT ρ V V') {w:World} {l l':Nat} {B B':SB} (hl : ρ l=some l') (hr:mB ρ B=some B') (lQ:okB V w l B) :
 okB V' w l' B'/\(∀ n,B'.aN V' l'=some n->B.aN V l=some n)/\(∀ n,B.aN V l=some n->B'.aN V' l'=some n)/\B'.owned=B.owned:=by
 cases B with
 | gL k xs=>
   simp only [mB,zzI] at hr
   subst hr
   obtain ⟨cs,hc,v,hσ,hh⟩:=lQ
   have fY:=(h l l' hl).2 _ hσ
   exact ⟨⟨cs,hc,v,fY,hh⟩,fun n hn=>by simpa [SB.aN,hσ,fY] using hn,fun n hn=>by simpa [SB.aN,hσ,fY] using hn,rfl⟩
 | fM ds ty=>
   simp only [mB,zzI] at hr
   subst hr
   obtain ⟨cs,hc,v,us,hσ,hh⟩:=lQ
   have fY:=(h l l' hl).2 _ hσ
   exact ⟨⟨cs,hc,v,us,fY,hh⟩,fun n hn=>by simpa [SB.aN,hσ,fY] using hn,fun n hn=>by simpa [SB.aN,hσ,fY] using hn,rfl⟩
 | nU d=>
   simp only [mB,zzI] at hr
   subst hr
   exact ⟨⟨[],rfl,trivial⟩,fun n hn=>by simp [SB.aN] at hn,fun n hn=>by simp [SB.aN] at hn,rfl⟩
 | rI xs=>
   simp only [mB,zzI] at hr
   subst hr
   obtain ⟨cs,hc,v,hσ,hh⟩:=lQ
   have fY:=(h l l' hl).2 _ hσ
   exact ⟨⟨cs,hc,v,fY,hh⟩,fun n hn=>by simpa [SB.aN,hσ,fY] using hn,fun n hn=>by simpa [SB.aN,hσ,fY] using hn,rfl⟩
 | gU ds z=>
   simp only [mB,zzI] at hr
   subst hr
   exact ⟨⟨[],rfl,trivial⟩,fun n hn=>by simp [SB.aN] at hn,fun n hn=>by simp [SB.aN] at hn,rfl⟩
 | mI ds=>
   simp only [mB,zzI] at hr
   subst hr
   exact ⟨⟨[],rfl,trivial⟩,fun n hn=>by simp [SB.aN] at hn,fun n hn=>by simp [SB.aN] at hn,rfl⟩
 | _=>exact rY h hl hr lQ
theorem fG {ρ : Nat->Option Nat} {B B':SB} (h:vJ ρ B=some B'):B'.plain=true:=by
 rcases rX h with q | rfl
 .exact q.2
 .rfl
theorem Iu {ρ : Nat->Option Nat} {V V':aZ} (h:vT ρ V V') {w0:World} {M:Nat->Prop} {l l':Nat} {B B':SB} (hl : ρ l=some l') (hr:mB ρ B=some B') (hf:lG w0 M V l B):lG w0 M V' l' B':=by
 cases B with
 | nU d=>
   simp only [mB,zzI] at hr
   subst hr
   obtain ⟨u,hσ,r⟩:=hf
   exact ⟨u,(h l l' hl).2 _ hσ,r⟩
 | gU ds z=>
   simp only [mB,zzI] at hr
   subst hr
   obtain ⟨v,us,hσ,r⟩:=hf
   exact ⟨v,us,(h l l' hl).2 _ hσ,r⟩
 | mI ds=>
   simp only [mB,zzI] at hr
   subst hr
   obtain ⟨v,us,hσ,r⟩:=hf
   exact ⟨v,us,(h l l' hl).2 _ hσ,r⟩
 | fM ds ty=>
   simp only [mB,zzI] at hr
   subst hr
   obtain ⟨v,us,hσ,r⟩:=hf
   exact ⟨v,us,(h l l' hl).2 _ hσ,r⟩
 | gL k xs=>
   simp only [mB,zzI] at hr
   subst hr
   trivial
 | rI xs=>
   simp only [mB,zzI] at hr
   subst hr
   trivial
 | eQ a b=>exact cY (fG (ρ := ρ) (B:=.eQ a b) hr)
 | own a b=>exact cY (fG (ρ := ρ) (B:=.own a b) hr)
 | ints a b c=>exact cY (fG (ρ := ρ) (B:=.ints a b c) hr)
 | fS a=>exact cY (fG (ρ := ρ) (B:=.fS a) hr)
 | nZ a b=>exact cY (fG (ρ := ρ) (B:=.nZ a b) hr)
 | cS a b c=>exact cY (fG (ρ := ρ) (B:=.cS a b c) hr)
 | row a b c=>exact cY (fG (ρ := ρ) (B:=.row a b c) hr)
 | eK a b=>exact cY (fG (ρ := ρ) (B:=.eK a b) hr)
 | fX a b c=>exact cY (fG (ρ := ρ) (B:=.fX a b c) hr)
 | jB a b c d=>exact cY (fG (ρ := ρ) (B:=.jB a b c d) hr)
 | gone=>exact cY (fG (ρ := ρ) (B:=.gone) hr)
noncomputable def sZ (ρ : Nat->Option Nat) (tb:Tr SB):List Nat->Option (List SB)
 | []=>some []
 | l::r=>match tb.get l with
   | some B=>match mB ρ B,sZ ρ tb r with
     | some B,some bs=>some (B::bs)
     | _,_=>none
   | none=>none
theorem sJ {ρ : Nat->Option Nat} {tb:Tr SB}:∀ {ls:List Nat} {bs:List SB},sZ ρ tb ls=some bs->bs.length=ls.length/\∀ (i:Nat) (B:SB),bs[i]?=some B->∃ (l:Nat) (C:SB),ls[i]?=some l/\tb.get l=some C/\mB ρ C=some B
 | [],bs,h=>by simp only [sZ,zzI] at h;subst h;simp
 | l::r,bs,h=>by
   simp only [sZ] at h
   split at h
   .rename_i C hC
    split at h
    .rename_i B' bs' hB UK
     cases h
     obtain ⟨h1,h2⟩:=sJ UK
     refine ⟨by simp [h1],fun i B hi=>?_⟩
     cases i with
     | zero=>simp only [List.getElem?_cons_zero,zzI] at hi;subst hi;exact ⟨l,C,rfl,hC,hB⟩
     | succ i=>simpa using h2 i B (by simpa using hi)
    .cases h
   .cases h
noncomputable def Of (ρ : Nat->Option Nat) (g:Tr SV):List Nat->Option (Tr SV)
 | []=>some .lf
 | t::r=>match Of ρ g r,g.get t with
   | some g',some v=>match yA ρ v with
     | some v=>Tr.put v 64 g' t
     | none=>none
   | _,_=>none
noncomputable def GI:List (Nat × SB)->Option (Tr SB)
 | []=>some .lf
 | (l,B)::r=>match GI r with
   | some t=>Tr.put B 64 t l
   | none=>none
noncomputable def Xi (F0:Nat) (gO eT:List Nat) (hs:List Bool) (s:St):Option St:=
 match Of (nm F0 F0 eT) s.g gO,sZ (nm F0 F0 eT) s.tb s.ws,sZ (nm F0 F0 eT) s.tb eT with
 | some g,some wr,some nw=>match GI (pF s.ws wr++fT F0 nw),Ap (nm F0 F0 eT) s.df with
   | some tb,some df=>match Hx eT&&(eT.all (fun l=>Nat.ble F0 l)&&s.ws.all (fun l=>Nat.blt l F0)) with
     | true=>some { g:=g,tb:=tb,nx:=F0+eT.length,ws:=s.ws,ob:=[],df:=df,hs:=hs }
     | false=>none
   | _,_=>none
 | _,_,_=>none
theorem zA {ρ : Nat->Option Nat} {g:Tr SV}:∀ {ks:List Nat} {g':Tr SV},Of ρ g ks=some g'->∀ t v,g'.get t=some v->∃ u,g.get t=some u/\yA ρ u=some v
 | [],g',h,t,v,hv=>by simp only [Of,zzI] at h;subst h;rw [Tr.lX] at hv;cases hv
 | k::r,g',h,t,v,hv=>by
   simp only [Of] at h
   split at h
   case h_2=>cases h
   rename_i g1 u h1 hu
   split at h
   case h_2=>cases h
   rename_i v1 hr
   rw [Tr.iH _ _ _ _ _ h t] at hv
   split at hv
   .rename_i e;subst e;cases hv;exact ⟨u,hu,hr⟩
   .exact zA h1 t v hv
theorem Pm:∀ {r:List (Nat × SB)} {t:Tr SB},GI r=some t->∀ l,t.get l=look l r
 | [],t,h,l=>by simp only [GI,zzI] at h;subst h;rfl
 | (k,B)::r,t,h,l=>by
   simp only [GI] at h
   split at h
   case h_2=>cases h
   rename_i t1 h1
   rw [Tr.iH _ _ _ _ _ h l]
   split
   .rename_i e;subst e;rw [aH]
   .rename_i e;rw [aD (fun q=>e q.symm)];exact Pm h1 l
structure pZ (Γ:Env) (B:bA) (F0:Nat) (V0:aZ):Prop where
 top:V0.top F0
 aT:bO Γ V0
 cut:∀ l,F0<=l->B l=none
 cells:∀ l b,B l=some b->∃ cs,b.cells V0=some cs
theorem IT {F lab l:Nat} {ls:List Nat} (h:l<F):nm F lab ls l=some l:=by
 unfold nm
 have:Nat.blt l F=true:=by simpa [Nat.blt_eq] using h
 rw [this]
theorem aVl {F lab l i:Nat} {ls:List Nat} (h:F<=l) (hd:Hx ls=true) (hi:ls[i]?=some l):nm F lab ls l=some (lab+i):=by
 unfold nm
 have hb:Nat.blt l F=false:=by
  cases hb:Nat.blt l F with
  | false=>rfl
  | true=>have:l<F:=by simpa [Nat.blt_eq] using hb
          omega
 rw [hb]
 simp only
 cases VI:Gr l ls 0 with
 | none=>
   exfalso
   have:∀ (ms:List Nat) (i:Nat),Gr l ms i=none->l ∉ ms:=by
    intro ms
    induction ms with
    | nil=>intro i _;simp
    | cons a r ih=>
      intro i hi
      simp only [Gr] at hi
      split at hi
      .cases hi
      .rename_i hb
       have:=beq_false hb
       simp only [List.mem_cons,not_or]
       exact ⟨fun q=>this q.symm,ih _ hi⟩
   exact this ls 0 VI (List.mem_of_getElem? hi)
 | some j=>
   simp only
   obtain ⟨_,h6⟩:=wF VI
   have:=xG hd hi (by simpa using h6)
   congr 1
   omega
section
variable {P:Program} {Γ:Env} {w0:World} {M:Nat->Prop} {B:bA} {N F0:Nat} {V0:aZ}
theorem Inv.norm (hb:pZ Γ B F0 V0) {gO eT:List Nat} {hs:List Bool} {s s':St} (h:Xi F0 gO eT hs s=some s') {V:aZ} {a:Act} {w:World} (hi:Inv P Γ w0 M B N F0 V0 s V a w) :
 ∃ V',Inv P Γ w0 M B N F0 V0 s' V' a w:=by
 unfold Xi at h
 split at h
 case h_2=>cases h
 rename_i g wr nw hg AI hnw
 split at h
 case h_2=>cases h
 rename_i tb df htb hdf
 split at h
 case h_2=>cases h
 rename_i iE
 cases h
 simp only [zzn] at iE
 obtain ⟨vH,hc3,hc4⟩:=iE
 have XG:∀ (i k:Nat),eT[i]?=some k->F0<=k:=fun i k hk=>zzL (List.all_eq_true.1 hc3 k (List.mem_of_getElem? hk))
 have GN:∀ k,k∈s.ws->k<F0:=fun k hk=>by have:=List.all_eq_true.1 hc4 k hk;simpa [Nat.blt_eq] using this
 obtain ⟨FP,hng⟩:=sJ hnw
 obtain ⟨hwl,hwg⟩:=sJ AI
 have rA:=Pm htb
 obtain ⟨V',Rf⟩:∃ V':aZ,V'=⟨fun l=>if l<F0 then V.β l else (eT[l-F0]?).bind V.β,fun l=>if l<F0 then V.σ l else (eT[l-F0]?).bind V.σ⟩:=⟨_,rfl⟩
 have Mv:∀ l,l<F0->V'.β l=V.β l/\V'.σ l=V.σ l:=fun l hl=>by subst Rf;exact ⟨if_pos hl,if_pos hl⟩
 have vhi:∀ i,V'.β (F0+i)=(eT[i]?).bind V.β/\V'.σ (F0+i)=(eT[i]?).bind V.σ:=fun i=>by
  subst Rf
  refine ⟨(if_neg (by omega)).trans ?_,(if_neg (by omega)).trans ?_⟩ <;> rw [show F0+i-F0=i from by omega]
 have aZi:∀ l,F0<=l->V'.β l=(eT[l-F0]?).bind V.β/\V'.σ l=(eT[l-F0]?).bind V.σ:=fun l hl=>by
  have:=vhi (l-F0);rwa [show F0+(l-F0)=l from by omega] at this
 have hle:V0.le V':=by
  refine ⟨fun l p hp=>?_,fun l p hp=>?_⟩
  .by_cases hl:l<F0
   .rw [(Mv l hl).1,(hi.low l hl).1];exact hp
   .rw [(hb.top l (by omega)).1] at hp;cases hp
  .by_cases hl:l<F0
   .rw [(Mv l hl).2,(hi.low l hl).2];exact hp
   .rw [(hb.top l (by omega)).2] at hp;cases hp
 have vL:vT (nm F0 F0 eT) V V':=by
  intro l l' hl
  by_cases cM:l<F0
  .rw [IT cM] at hl
   cases hl
   rw [(Mv l cM).1,(Mv l cM).2]
   exact ⟨fun p hp=>hp,fun p hp=>hp⟩
  .unfold nm at hl
   split at hl
   .rename_i Ww
    exact absurd (by simpa [Nat.blt_eq] using Ww) cM
   .split at hl
    .rename_i i VI
     cases hl
     obtain ⟨_,h2⟩:=wF VI
     have h2:eT[i]?=some l:=by simpa using h2
     rw [(vhi i).1,(vhi i).2,h2]
     exact ⟨fun p hp=>hp,fun p hp=>hp⟩
    .cases hl
 have src:∀ l b,St.T B { g:=g,tb:=tb,nx:=F0+eT.length,ws:=s.ws,ob:=[],df:=df,hs:=hs } l=some b ->
  ∃ k C,s.T B k=some C/\nm F0 F0 eT k=some l/\okB V' w l b/\(∀ n,b.aN V' l=some n->C.aN V k=some n)/\b.owned=C.owned/\lG w0 M V' l b:=by
  intro l b hl
  simp only [St.T,rA l] at hl
  rw [cD] at hl
  cases hw:look l (pF s.ws wr) with
  | some b1=>
    rw [hw] at hl
    cases hl
    obtain ⟨i,h1,h2⟩:=nQ hw
    obtain ⟨k,C,h3,h4,h5⟩:=hwg i _ h2
    rw [h1] at h3;cases h3
    have zO:s.T B l=some C:=by simp only [St.T,h4]
    have FO:nm F0 F0 eT l=some l:=IT (GN l (List.mem_of_getElem? h1))
    obtain ⟨r1,r2,r3,r4⟩:=Iv vL FO h5 (hi.eI.ok l C zO)
    exact ⟨l,C,zO,FO,r1,r2,r4,Iu vL FO h5 (hi.eI.tV l C zO)⟩
  | none=>
    rw [hw] at hl
    have Gs:=mA hwl hw
    simp only at hl
    rw [fL] at hl
    by_cases hr:F0<=l
    .rw [if_pos hr] at hl
     cases hn:nw[l-F0]? with
     | some b1=>
       rw [hn] at hl
       cases hl
       obtain ⟨k,C,h3,h4,h5⟩:=hng (l-F0) _ hn
       have zO:s.T B k=some C:=by simp only [St.T,h4]
       have FO:nm F0 F0 eT k=some l:=by
        rw [aVl (XG _ _ h3) vH h3]
        congr 1
        omega
       obtain ⟨r1,r2,r3,r4⟩:=Iv vL FO h5 (hi.eI.ok k C zO)
       exact ⟨k,C,zO,FO,r1,r2,r4,Iu vL FO h5 (hi.eI.tV k C zO)⟩
     | none=>
       rw [hn] at hl
       simp only at hl
       rw [hb.cut l hr] at hl
       cases hl
    .rw [if_neg hr] at hl
     simp only at hl
     have cM:l<F0:=by omega
     have zO:s.T B l=some b:=by simp only [St.T,hi.ch l cM Gs,hl]
     obtain ⟨cs,c1,c2⟩:=hi.eI.ok l b zO
     obtain ⟨cs0,c3⟩:=hb.cells l b hl
     have:=SB.jF hi.le c3
     rw [c1] at this
     cases this
     have e1:=(Mv l cM).1
     have e2:=(Mv l cM).2
     refine ⟨l,b,zO,IT cM,⟨cs,SB.jF hle c3,?_⟩,fun n hn=>?_,rfl,?_⟩
     .cases b with
      | own cells ty=>obtain ⟨b,hb,hh⟩:=c2;exact ⟨b,e1.trans hb,hh⟩
      | ints k xs ty=>obtain ⟨b,hb,hh⟩:=c2;exact ⟨b,e1.trans hb,hh⟩
      | eK vs ty=>obtain ⟨b,hb,hh⟩:=c2;exact ⟨b,e1.trans hb,hh⟩
      | fS cells=>obtain ⟨b,o,hb,hh⟩:=c2;exact ⟨b,o,e1.trans hb,hh⟩
      | nZ k xs=>obtain ⟨b,o,hb,hh⟩:=c2;exact ⟨b,o,e1.trans hb,hh⟩
      | cS k xs ty=>obtain ⟨v,hv,hh⟩:=c2;exact ⟨v,e2.trans hv,hh⟩
      | fX sz n ty=>obtain ⟨v,us,hv,hh⟩:=c2;exact ⟨v,us,e2.trans hv,hh⟩
      | row sz cells ty=>obtain ⟨b,cap,cur,hb,hσ,r⟩:=c2;exact ⟨b,cap,cur,e1.trans hb,e2.trans hσ,r⟩
      | gL k xs=>obtain ⟨v,hv,hh⟩:=c2;exact ⟨v,e2.trans hv,hh⟩
      | fM ds ty=>obtain ⟨v,us,hv,hh⟩:=c2;exact ⟨v,us,e2.trans hv,hh⟩
      | jB pre k ds ty=>obtain ⟨b,cap,cur,hb,hσ,r⟩:=c2;exact ⟨b,cap,cur,e1.trans hb,e2.trans hσ,r⟩
      | eQ xs ty=>obtain ⟨v,hv,hh⟩:=c2;exact ⟨v,e2.trans hv,hh⟩
      | rI xs=>obtain ⟨v,hv,hh⟩:=c2;exact ⟨v,e2.trans hv,hh⟩
      | mI ds=>trivial
      | nU d=>trivial
      | gU ds z=>trivial
      | gone=>trivial
     .cases b <;> simp only [SB.aN,e1,e2] at hn |- <;> exact hn
     .have Cj:=hi.eI.tV l b zO
      cases b with
      | mI ds=>obtain ⟨v,us,hσ,r⟩:=Cj;exact ⟨v,us,e2.trans hσ,r⟩
      | nU d=>obtain ⟨u,hσ,r⟩:=Cj;exact ⟨u,e2.trans hσ,r⟩
      | gU ds z=>obtain ⟨v,us,hσ,r⟩:=Cj;exact ⟨v,us,e2.trans hσ,r⟩
      | fM ds ty=>obtain ⟨v,us,hσ,r⟩:=Cj;exact ⟨v,us,e2.trans hσ,r⟩
      | _=>trivial
 refine ⟨V',fun t v hv=>?_,fun d v hv=>?_,hi.size,?_,⟨fun l b hl=>?_,fun l b l' b' n dG hl sP ho Mp BH=>?_,fun l b n hl ho Mp=>?_,hi.eI.frame,fun l b hl=>(by obtain ⟨_,_,_,_,_,_,_,h⟩:=src l b hl;exact h)⟩,fun n l hl=>hle.1 _ _ (hb.aT n l hl),fun l hl=>?_,hle,fun l hl=>?_,fun l hl hn=>?_,?_,fun l hl=>?_⟩
 .obtain ⟨u,h1,h2⟩:=zA hg t v hv
  exact yN vL h2 (hi.tmp t u h1)
 .obtain ⟨u,h1,_⟩:=zA hg d v hv
  exact hi.keys d u h1
 .obtain ⟨xs,h1,h2⟩:=hi.defers
  exact ⟨xs,mE vL hdf h1,h2⟩
 .obtain ⟨_,_,_,_,h,_⟩:=src l b hl;exact h
 .obtain ⟨k,C,h1,h2,_,h4,h5,_⟩:=src l b hl
  obtain ⟨k',C',Gk,EY,_,h4',_⟩:=src l' b' sP
  have Ci:k≠k':=fun e=>by subst e;rw [h2] at EY;cases EY;exact dG rfl
  exact hi.eI.jX k C k' C' n Ci h1 Gk (h5 ▸ ho) (h4 n Mp) (h4' n BH)
 .obtain ⟨k,C,h1,h2,_,h4,h5,_⟩:=src l b hl
  exact hi.eI.perm k C n h1 (h5 ▸ ho) (h4 n Mp)
 .have hl:F0+eT.length<=l:=hl
  have:=aZi l (by omega)
  rw [this.1,this.2,List.getElem?_eq_none (by omega)]
  exact ⟨rfl,rfl⟩
 .rw [(Mv l hl).1,(Mv l hl).2];exact hi.low l hl
 .show tb.get l=none
  rw [rA l,cD]
  cases hw:look l (pF s.ws wr) with
  | some b=>
    obtain ⟨i,h1,_⟩:=nQ hw
    exact absurd (List.mem_of_getElem? h1) hn
  | none=>
    simp only
    rw [fL,if_neg (by omega)]
 .exact Nat.le_add_right _ _
 .have hl:F0+eT.length<=l:=hl
  have h1:tb.get l=none:=by
   rw [rA l,cD]
   cases hw:look l (pF s.ws wr) with
   | some b=>
     obtain ⟨i,h1,_⟩:=nQ hw
     have:=GN l (List.mem_of_getElem? h1)
     omega
   | none=>
     simp only
     rw [fL,if_pos (by omega)]
     exact List.getElem?_eq_none (by rw [FP];omega)
  show (match tb.get l with | some b=>some b | none=>B l)=none
  rw [h1]
  exact hb.cut l (by omega)
theorem G.norm (hb:pZ Γ B F0 V0) {gO eT:List Nat} {hs:List Bool} {s s':St} (h:Xi F0 gO eT hs s=some s') {cf:Cf} {K:List Fr} {Q:Exit->Act->World->Prop}
 (hG:G P Γ w0 M B N F0 V0 cf K s' Q):G P Γ w0 M B N F0 V0 cf K s Q:=by
 intro V a w hi
 obtain ⟨V',fW⟩:=hi.norm hb h
 exact hG V' a w fW
end
noncomputable def Gz (Γ:Env) (T:bA) (lab F:Nat) (fn:Func) (x:Ex) (s:St):Option bL:=match x with
 | .exit _=>none
 | _=>match lI Γ (aY F T) F fn.ntmps s.df s with
   | some s=>match Cv Γ s.g.get (s.T (aY F T)) fn.results.toList with
     | some (ob,rs)=>finish F lab (s.TQ ob) (res rs)
     | none=>none
   | none=>none
theorem aFf {P:Program} {Γ:Env} (aR:cC P Γ) (aU:cK P Γ) {fn:Func} {T T2:bA} {lab F:Nat} {e e':bL} {w0 w:World} {M:Nat->Prop} {V:aZ} {x:Ex} {s:St}
 (aK:∀ l B,T l=some B->T2 l=some B) (hT:aC w0 M V T2 w) (hf:V.fresh lab) (h:Gz Γ T lab F fn x s=some e') (ho:∀ q∈e'.bK,q) (hev:e'.val=e.val) (hen:e'.new=e.new) (hew:e'.wr=e.wr)
 {R:Ending->World->Prop} (hR:∀ V' x w',V.ext lab V'->den V' e.val=some x->aC w0 M V' (eG T2 lab e) w'->R (.returned x) w') :
 G P Γ w (kH V (aY F T)) (aY F T) fn.ntmps F V (.at x) [] s (bodyPostD P fn R):=by
 intro V' a' w' fW
 have main:∀ y:Ex,y.to = .normal\/y.to = .ret->(match lI Γ (aY F T) F fn.ntmps s.df s with
   | some s=>match Cv Γ s.g.get (s.T (aY F T)) fn.results.toList with
     | some (ob,rs)=>finish F lab (s.TQ ob) (res rs)
     | none=>none
   | none=>none)=some e'->bodyPostD P fn R y.to a' w':=by
  intro y hy h
  split at h
  case h_2=>cases h
  rename_i s2 h2
  split at h
  case h_2=>cases h
  rename_i obr rs AM
  have FT:e'.bK=obr++s2.ob:=by
   unfold finish at h
   split at h
   .cases h
   .simp only at h
    split at h
    .cases h;rfl
    .cases h
  obtain ⟨ys,iL,Hn⟩:=fW.defers
  have hl:Leaves P fn a'.tmps R a'.defers .returning w':=by
   rw [Hn]
   refine Er aU h2 (fun q hq=>ho q (FT ▸ List.mem_append_right _ hq)) fW rfl iL fun V3 a3 w3 hi3 ha3=>?_
   obtain ⟨v,hv1,hv2⟩:=Fm (P:=P) (fn:=fn) aR hi3.tmp hi3.eI AM (fun q hq=>ho q (FT ▸ List.mem_append_left _ hq))
   obtain ⟨_,V2,k1,k2,k3⟩:=Jf hT aK hf (hi3.TQ obr) hv1 h
   refine ⟨v,ha3 ▸ hv2,hR V2 v w3 k1 (hev ▸ k2) ?_⟩
   have:eG T2 lab e=eG T2 lab e':=by
    funext l;simp only [eG,bL.eI,hen,hew]
   rw [this]
   exact k3
  rcases hy with q | q <;> (rw [q];exact hl)
 cases x with
 | exit id=>cases h
 | normal=>exact main .normal (.inl rfl) h
 | ret=>exact main .ret (.inr rfl) h
theorem gI {P:Program} {Γ:Env} (aR:cC P Γ) (aU:cK P Γ) {f:FuncId} {fn:Func} {c:Code} (tJ:P.funcs[f]?=some fn) (dG:(fn.name == "runtime.NumGoroutine")=false) (hc:fn.body=some c)
 {vs:List SV} {T:bA} {lab F:Nat} {e:bL} (hn:vs.length<=fn.ntmps) {g:Tr SV} (Bi:Dq vs 0 .lf=some g) (hs:List Bool)
 (H:∀ (w0:World) (M:Nat->Prop) (V0:aZ) (Q:Exit->Act->World->Prop),pZ Γ (aY F T) F V0 ->
  (∀ x s e',Gz Γ T lab F fn x s=some e'->(∀ q∈e'.bK,q)->e'.val=e.val->e'.new=e.new->e'.wr=e.wr->G P Γ w0 M (aY F T) fn.ntmps F V0 (.at x) [] s Q) ->
  G P Γ w0 M (aY F T) fn.ntmps F V0 (.go c) [] { g:=g,tb:=.lf,nx:=F,ws:=[],ob:=[],hs:=hs } Q):aE P Γ f vs T lab F e:=by
 intro w0 M V T2 w xs aK hT hg hf hF hx o a K Q hK
 have hlen:=bC hx
 have Ol:=zB Bi
 have mJ:xs.length=vs.length:=hlen
 have cA:pZ Γ (aY F T) F V:=by
  refine ⟨hF,hg,fun l hl=>?_,fun l b hl=>?_⟩
  .cases hc:aY F T l with
   | none=>rfl
   | some b=>have:=(lM hc).1;omega
  .obtain ⟨cs,h1,_⟩:=hT.ok l b (aK l b (lM hl).2)
   exact ⟨cs,h1⟩
 have VJ:Inv P Γ w (kH V (aY F T)) (aY F T) fn.ntmps F V { g:=g,tb:=.lf,nx:=F,ws:=[],ob:=[],hs:=hs } V { tmps:=xs.toArray++Array.replicate (fn.ntmps-xs.toArray.size) undef,defers:=[] } w:=by
  refine ⟨fun t v hv=>?_,fun d v hv=>?_,?_,⟨[],rfl,rfl⟩,?_,hg,hF,V.le_refl,fun l _=>⟨rfl,rfl⟩,fun l _ _=>rfl,zzr _,fun l hl=>?_⟩
  .have:=Ol t
   simp only at hv
   rw [hv] at this
   split at this
   .rename_i hr
    obtain ⟨y,h1,h2⟩:=dZ hx t v (by simpa using this.symm)
    rw [h2]
    have cM:t<xs.length:=by omega
    have rA:xs[t]?=some y:=h1
    simp [Act.eval,Array.getD_eq_getD_getElem?,Array.getElem?_append,cM] at rA |-
    exact rA.symm
   .cases this
  .have:=Ol d
   simp only at hv
   rw [hv] at this
   split at this
   .omega
   .cases this
  .simp
   omega
  .have hp:=aC.part hT (T:=aY F T) (fun l B hl=>aK l B (lM hl).2)
   have:St.T (aY F T) { g:=g,tb:=.lf,nx:=F,ws:=[],ob:=[],hs:=hs }=aY F T:=by funext l;rfl
   rw [this]
   exact hp
  .show (match Tr.get .lf l with | some b=>some b | none=>aY F T l)=none
   simp only [Tr.lX]
   exact cA.cut l hl
 rw [hY tJ hc dG,Oper.upon_enter]
 refine calls_of_wp_defers tJ hc ?_
 exact H w (kH V (aY F T)) V (bodyPostD P fn _) cA (fun x s e' h ho h1 h2 h3=>aFf aR aU aK hT hf h ho h1 h2 h3 (R:=fun
   | .returned v,UX=>K (a.put o.dst v) UX
   | .panicked chain,UX=>Q (.panic chain) a UX
   | .outgrown,_=>LetsOut Q) (fun V' x w' h1 h2 h3=>hK V' x w' h1 h2 h3)) V _ w VJ
def eqI (s s':Bool) (a b:Int):List Prop:=match s&&s' with
 | true=>match yJ a b with
   | true=>[]
   | false=>[a=b]
 | false=>[a=b]
theorem aPn {s s':Bool} {a b:Int} (h:∀ q∈eqI s s' a b,q):a=b:=by
 unfold eqI at h
 split at h
 .split at h
  .rename_i hb;exact Zy hb
  .exact h _ (by simp)
 .exact h _ (by simp)
def Ge (s s':Bool) (a b:Nat):List Prop:=match s&&s' with
 | true=>match Nat.beq a b with
   | true=>[]
   | false=>[a=b]
 | false=>[a=b]
theorem gA {s s':Bool} {a b:Nat} (h:∀ q∈Ge s s' a b,q):a=b:=by
 unfold Ge at h
 split at h
 .split at h
  .rename_i hb;exact zzN hb
  .exact h _ (by simp)
 .exact h _ (by simp)
def BC:List SV->Bool
 | []=>true
 | .int true _ _::r=>BC r
 | .bool true _::r=>BC r
 | _=>false
theorem Ew {V V':aZ}:∀ {cs:List SV},BC cs=true->aG V cs=aG V' cs
 | [],_=>rfl
 | v::r,h=>by
   unfold BC at h
   split at h
   .rename_i e;cases e
   .rename_i e;cases e;simp only [aG,den,Ew (V:=V) (V':=V') h]
   .rename_i e;cases e;simp only [aG,den,Ew (V:=V) (V':=V') h]
   .cases h
def Dc (cs ds:List SV) (els:Option (List Prop)):Option (List Prop):=match BC cs&&BC ds with
 | true=>match Nm cs ds with
   | true=>some []
   | false=>none
 | false=>match zS cs,zS ds with
   | some (k,ns),some (k',ms)=>match pD k k' with
     | true=>some [ns=ms]
     | false=>none
   | _,_=>els
theorem wI {cs ds:List SV} {els:Option (List Prop)} {ps:List Prop} (h:Dc cs ds els=some ps) (hp:∀ q∈ps,q):(∀ V V',aG V' ds=aG V cs)\/els=some ps:=by
 unfold Dc at h
 split at h
 .rename_i hl
  simp only [zzn] at hl
  split at h
  .rename_i hb
   left
   intro V V'
   rw [<- Bz hb]
   exact Ew hl.1
  .cases h
 .split at h
  .rename_i h1 h2
   split at h
   .rename_i hk
    cases h
    have e:=hp _ zzC
    have hk:_=_:=zzD hk
    subst e hk
    left
    intro V V'
    rw [Ez h1,Ez h2]
   .cases h
  .exact .inr h
mutual
def gN:SV->SV->Option (List Prop)
 | .int s k n,.int s' k' n'=>match pD k k' with
   | true=>some (eqI s s' n n')
   | false=>none
 | .bool s b,.bool s' b'=>match s&&s' with
   | true=>match Sr b b' with
     | true=>some []
     | false=>none
   | false=>some [b=b']
 | .agg vs,.agg us=>Dc vs us (vK vs us)
 | .ai k xs,.ai k' ys=>match pD k k' with
   | true=>some [xs=ys]
   | false=>none
 | .agg vs,.ai k ys=>(dA k vs).map fun ns=>[ns=ys]
 | .ai k xs,.agg us=>(dA k us).map fun ns=>[xs=ns]
 | .eP vs,.eP us=>vK vs us
 | .ptr l s o,.ptr l' s' o'=>match Nat.beq l l' with
   | true=>some (Ge s s' o o')
   | false=>none
 | .aJ l s o n c,.aJ l' s' o' n' c'=>match Nat.beq l l' with
   | true=>some (Ge s s' o o'++(Ge s s' n n'++Ge s s' c c'))
   | false=>none
 | .cQ l o n lo,.cQ l' o' n' TW=>match Nat.beq l l'&&(Nat.beq o o'&&Nat.beq lo TW) with
   | true=>some (Ge false false n n')
   | false=>none
 | .buf l,.buf l'=>match Nat.beq l l' with
   | true=>some []
   | false=>none
 | .Wn l n c z j le,.Wn l' n' c' z' j' le'=>match Nat.beq l l'&&(Nat.beq z z'&&Nat.beq le le') with
   | true=>some [n=n'/\c=c'/\j=j']
   | false=>none
 | .jQ l o,.jQ l' o'=>match Nat.beq l l' with
   | true=>some (Ge false false o o')
   | false=>none
 | .nH l lo hi,.nH l' TW fW=>match Nat.beq l l' with
   | true=>some [lo=TW/\hi=fW]
   | false=>none
 | .eH l n,.eH l' n'=>match Nat.beq l l' with
   | true=>some (Ge false false n n')
   | false=>none
 | .tZ l n,.tZ l' n'=>match Nat.beq l l' with
   | true=>some (Ge false false n n')
   | false=>none
 | .xZ l i n,.xZ l' i' n'=>match Nat.beq l l' with
   | true=>some [i=i'/\n=n']
   | false=>none
 | .EP l i,.EP l' i'=>match Nat.beq l l' with
   | true=>some (Ge false false i i')
   | false=>none
 | .rG t v,.rG t' v'=>match Nat.beq t t' with
   | true=>gN v v'
   | false=>none
 | .fn (.func f) xs ys,.fn (.func g) us vs=>match Nat.beq f g with
   | true=>match vK xs us,vK ys vs with
     | some a,some b=>some (a++b)
     | _,_=>none
   | false=>none
 | .raw (.slice none 0 0),.raw (.slice none 0 0)=>some []
 | .raw (.pointer none),.raw (.pointer none)=>some []
 | .raw .nilIface,.raw .nilIface=>some []
 | .raw .nilFunc,.raw .nilFunc=>some []
 | .raw v,.raw v'=>some [v=v']
 | _,_=>none
def vK:List SV->List SV->Option (List Prop)
 | [],[]=>some []
 | v::r,u::t=>match gN v u,vK r t with
   | some a,some b=>some (a++b)
   | _,_=>none
 | _,_=>none
end
theorem iM {a b:List Prop} (h:∀ q∈a++b,q):∀ q∈a,q:=fun q hq=>h q (List.mem_append_left _ hq)
theorem fF {a b:List Prop} (h:∀ q∈a++b,q):∀ q∈b,q:=fun q hq=>h q (List.mem_append_right _ hq)
mutual
theorem kF {V:aZ}:∀ {v u:SV} {ps:List Prop},gN v u=some ps->(∀ q∈ps,q)->den V u=den V v
 | .int s k n,u,ps,h,hp=>by
   cases u <;> simp only [gN] at h <;> first | (cases h;done) | skip
   split at h
   .rename_i hk
    cases h
    rw [aPn hp]
    have:k=_:=zzD hk
    rw [this];rfl
   .cases h
 | .bool s b,u,ps,h,hp=>by
   cases u <;> simp only [gN] at h <;> first | (cases h;done) | skip
   split at h
   .split at h
    .rename_i hb;cases h;rw [tD hb];rfl
    .cases h
   .cases h;have:=hp _ zzC;subst this;rfl
 | .agg vs,u,ps,h,hp=>by
   cases u <;> simp only [gN] at h <;> first | (cases h;done) | skip
   case agg=>
    rcases wI h hp with e | e
    .simp only [den,e V V]
    .simp only [den,lE e hp]
   case ai=>
    simp only [zzM] at h
    obtain ⟨ns,hn,rfl⟩:=h
    have e:=hp _ zzC
    subst e
    simp only [den,cX hn,zzm]
 | .ai k xs,u,ps,h,hp=>by
   cases u <;> simp only [gN] at h <;> first | (cases h;done) | skip
   case agg=>
    simp only [zzM] at h
    obtain ⟨ns,hn,rfl⟩:=h
    have e:=hp _ zzC
    subst e
    simp only [den,cX hn,zzm]
   case ai=>
    split at h
    .rename_i hk
     cases h
     have e:=hp _ zzC
     have hk:_=_:=zzD hk
     subst e hk
     rfl
    .cases h
 | .eP vs,u,ps,h,hp=>by
   cases u <;> simp only [gN] at h <;> first | (cases h;done) | skip
   simp only [den,lE h hp]
 | .ptr l s o,u,ps,h,hp=>by
   cases u <;> simp only [gN] at h <;> first | (cases h;done) | skip
   split at h
   .rename_i hl;cases h;simp only [den,gA hp,zzN hl]
   .cases h
 | .aJ l s o n c,u,ps,h,hp=>by
   cases u <;> simp only [gN] at h <;> first | (cases h;done) | skip
   split at h
   .rename_i hl;cases h;simp only [den,gA (iM hp),gA (iM (fF hp)),gA (fF (fF hp)),zzN hl]
   .cases h
 | .cQ l o n c,u,ps,h,hp=>by
   cases u <;> simp only [gN] at h <;> first | (cases h;done) | skip
   split at h
   .rename_i hl
    simp only [zzn] at hl
    obtain ⟨h1,h2,h4⟩:=hl
    cases h
    simp only [den,zzN h1,zzN h2,gA hp,zzN h4]
   .cases h
 | .buf l,u,ps,h,hp=>by
   cases u <;> simp only [gN] at h <;> first | (cases h;done) | skip
   split at h
   .rename_i hl;simp only [den,zzN hl]
   .cases h
 | .Wn l n c z j le,u,ps,h,hp=>by
   cases u <;> simp only [gN] at h <;> first | (cases h;done) | skip
   split at h
   .rename_i hl
    simp only [zzn] at hl
    obtain ⟨h1,h2,h3⟩:=hl
    cases h
    obtain ⟨e1,e2,e3⟩:=hp _ zzC
    simp only [den,zzN h1,zzN h2,zzN h3,e1,e2,e3]
   .cases h
 | .jQ l o,u,ps,h,hp=>by
   cases u <;> simp only [gN] at h <;> first | (cases h;done) | skip
   split at h
   .rename_i hl;cases h;simp only [den,gA hp,zzN hl]
   .cases h
 | .tZ l o,u,ps,h,hp=>by
   cases u <;> simp only [gN] at h <;> first | (cases h;done) | skip
   split at h
   .rename_i hl;cases h;simp only [den,gA hp,zzN hl]
   .cases h
 | .EP l o,u,ps,h,hp=>by
   cases u <;> simp only [gN] at h <;> first | (cases h;done) | skip
   split at h
   .rename_i hl;cases h;simp only [den,gA hp,zzN hl]
   .cases h
 | .xZ l lo hi,u,ps,h,hp=>by
   cases u <;> simp only [gN] at h <;> first | (cases h;done) | skip
   split at h
   .rename_i hl;cases h;obtain ⟨e1,e2⟩:=hp _ zzC;simp only [den,e1,e2,zzN hl]
   .cases h
 | .nH l lo hi,u,ps,h,hp=>by
   cases u <;> simp only [gN] at h <;> first | (cases h;done) | skip
   split at h
   .rename_i hl;cases h;obtain ⟨e1,e2⟩:=hp _ zzC;simp only [den,e1,e2,zzN hl]
   .cases h
 | .eH l n,u,ps,h,hp=>by
   cases u <;> simp only [gN] at h <;> first | (cases h;done) | skip
   split at h
   .rename_i hl;cases h;simp only [den,gA hp,zzN hl]
   .cases h
 | .rG t v,u,ps,h,hp=>by
   cases u <;> simp only [gN] at h <;> first | (cases h;done) | skip
   split at h
   .rename_i hl;simp only [den,kF h hp,zzN hl]
   .cases h
 | .fn f xs ys,u,ps,h,hp=>by
   cases f with
   | func f=>
     cases u with
     | fn g us vs=>
       cases g with
       | func g=>
         simp only [gN] at h
         split at h
         .rename_i hf
          split at h
          .rename_i a b ha hb
           cases h
           simp only [den,lE ha (iM hp),lE hb (fF hp),zzN hf]
          .cases h
         .cases h
       | _=>simp [gN] at h
     | _=>simp [gN] at h
   | _=>cases u <;> simp [gN] at h
 | .raw v,u,ps,h,hp=>by
   cases u with
   | raw v'=>
     unfold gN at h
     split at h
     all_goals first
      | (cases h;have e:=hp _ zzC;rename_i e1 e2;cases e1;cases e2;rw [e];done)
      | (rename_i e1 e2;cases e1;cases e2;rfl)
      | (cases h;have e:=hp _ zzC;rename_i e1 e2 _;cases e1;cases e2;rw [e];done)
      | (simp_all;done)
      | skip
   | _=>simp [gN] at h
theorem lE {V:aZ}:∀ {vs us:List SV} {ps:List Prop},vK vs us=some ps->(∀ q∈ps,q)->aG V us=aG V vs
 | [],us,ps,h,hp=>by
   cases us with
   | nil=>rfl
   | cons=>simp [vK] at h
 | v::r,us,ps,h,hp=>by
   cases us with
   | nil=>simp [vK] at h
   | cons u t=>
     simp only [vK] at h
     split at h
     .rename_i a b ha hb
      cases h
      simp only [aG,kF ha (iM hp),lE hb (fF hp)]
     .cases h
end
def eY:SB->SB->Option (List Prop)
 | _,.gone=>some []
 | .own cs t,.own ds t'=>match Nat.beq t t' with
   | true=>Dc cs ds (vK cs ds)
   | false=>none
 | .own cs t,.ints k xs t'=>match dA k cs with
   | some ns=>some [ns=xs/\t=t']
   | none=>none
 | .ints k xs t,.ints k' ys t'=>match pD k k' with
   | true=>some [xs=ys/\t=t']
   | false=>none
 | .ints k xs t,.own ds t'=>match dA k ds with
   | some ns=>some [xs=ns/\t=t']
   | none=>none
 | .fS cs,.fS ds=>Dc cs ds (vK cs ds)
 | .fS cs,.nZ k xs=>(dA k cs).map fun ns=>[ns=xs]
 | .nZ k xs,.nZ k' ys=>match pD k k' with
   | true=>some [xs=ys]
   | false=>none
 | .fX sz n t,.fX FD n' t'=>match Nat.beq sz FD&&Nat.beq t t' with
   | true=>some (Ge false false n n')
   | false=>none
 | .cS k xs t,.cS k' ys t'=>match Nat.beq t t'&&pD k k' with
   | true=>some [xs=ys]
   | false=>none
 | .row z cs t,.row z' ds t'=>match Nat.beq t t'&&Nat.beq z z' with
   | true=>vK cs ds
   | false=>none
 | .eK vs t,.eK us t'=>match Nat.beq t t' with
   | true=>some [vs=us]
   | false=>none
 | .own cs t,.eK us t'=>match Nat.beq t t' with
   | true=>some [∀ V:aZ,aG V cs=some us]
   | false=>none
 | .eK vs t,.own ds t'=>match Nat.beq t t' with
   | true=>some [∀ V:aZ,aG V ds=some vs]
   | false=>none
 | .gL k xs,.gL k' ys=>match pD k k' with
   | true=>some [xs=ys]
   | false=>none
 | .jB pre l ds t,.jB GK l' es t'=>match Nat.beq t t'&&Nat.beq l l' with
   | true=>(vK pre GK).map fun ps=>(ds=es)::ps
   | false=>none
 | .eQ xs t,.eQ ys t'=>match Nat.beq t t' with
   | true=>some [xs=ys]
   | false=>none
 | .rI xs,.rI ys=>some [xs=ys]
 | .mI ds,.mI es=>some [ds=es]
 | .nU d,.nU e=>some [d=e]
 | .gU ds z,.gU es y=>some [ds=es/\z=y]
 | .fM ds t,.fM es t'=>match Nat.beq t t' with
   | true=>some [ds=es]
   | false=>none
 | _,_=>none
theorem aBd {V:aZ} {w:World} {l:Nat} {B C:SB} {ps:List Prop} (h:eY B C=some ps) (hp:∀ q∈ps,q) (lQ:okB V w l B) :
 okB V w l C/\(∀ n,C.aN V l=some n->B.aN V l=some n)/\(C.owned=B.owned\/C = .gone):=by
 have gone:∀ {D:SB},okB V w l .gone/\(∀ n,SB.gone.aN V l=some n->D.aN V l=some n)/\(SB.gone.owned=D.owned\/SB.gone = .gone):=fun {D}=>⟨⟨[],rfl,trivial⟩,(fun n hn=>by cases hn),Or.inr rfl⟩
 obtain ⟨cs,hc,h2⟩:=lQ
 cases C with
 | gone=>exact gone
 | own ds t'=>
   cases B with
   | own es t=>
     have key:t=t'/\aG V ds=aG V es:=by
      simp only [eY] at h
      split at h
      .rename_i ht
       refine ⟨zzN ht,?_⟩
       rcases wI h hp with e | e
       .exact e V V
       .exact lE e hp
      .cases h
     obtain ⟨rfl,hd⟩:=key
     exact ⟨⟨cs,hd.trans hc,h2⟩,fun n hn=>hn,.inl rfl⟩
   | ints k xs t=>
     simp only [eY] at h
     split at h
     .rename_i hk
      cases h
      obtain ⟨e,ht⟩:=hp _ zzC
      subst e ht
      simp only [SB.cells,zzI] at hc
      subst hc
      exact ⟨⟨_,cX hk,h2⟩,fun n hn=>hn,.inl rfl⟩
     .cases h
   | eK vs t=>
     simp only [eY] at h
     split at h
     .rename_i ht
      cases h
      have e:=hp _ zzC
      have h3:=zzN ht
      subst h3
      simp only [SB.cells,zzI] at hc
      subst hc
      exact ⟨⟨_,e V,h2⟩,fun n hn=>hn,.inl rfl⟩
     .cases h
   | _=>simp [eY] at h
 | ints k xs t'=>
   cases B with
   | own es t=>
     simp only [eY] at h
     split at h
     .rename_i hk
      cases h
      obtain ⟨e,ht⟩:=hp _ zzC
      subst e ht
      have:some cs=some _:=hc.symm.trans (cX hk)
      cases this
      exact ⟨⟨_,rfl,h2⟩,fun n hn=>hn,.inl rfl⟩
     .cases h
   | ints k2 ys t=>
     simp only [eY] at h
     split at h
     .rename_i ht
      cases h
      obtain ⟨e,h3⟩:=hp _ zzC
      have h4:_=_:=zzD ht
      subst e h3 h4
      exact ⟨⟨cs,hc,h2⟩,fun n hn=>hn,.inl rfl⟩
     .cases h
   | _=>simp [eY] at h
 | fS ds=>
   cases B with
   | fS es=>
     have hd:aG V ds=aG V es:=by
      simp only [eY] at h
      rcases wI h hp with e | e
      .exact e V V
      .exact lE e hp
     exact ⟨⟨cs,hd.trans hc,h2⟩,fun n hn=>hn,.inl rfl⟩
   | _=>simp [eY] at h
 | nZ k xs=>
   cases B with
   | fS es=>
     simp only [eY,zzM] at h
     obtain ⟨ns,hk,rfl⟩:=h
     have e:=hp _ zzC
     subst e
     have:some cs=some _:=hc.symm.trans (cX hk)
     cases this
     exact ⟨⟨_,rfl,h2⟩,fun n hn=>hn,.inl rfl⟩
   | nZ k2 ys=>
     simp only [eY] at h
     split at h
     .rename_i ht
      cases h
      have e:=hp _ zzC
      have h4:_=_:=zzD ht
      subst e h4
      exact ⟨⟨cs,hc,h2⟩,fun n hn=>hn,.inl rfl⟩
     .cases h
   | _=>simp [eY] at h
 | fX z m t'=>
   cases B with
   | fX z2 m2 t=>
     simp only [eY] at h
     split at h
     .rename_i ht
      cases h
      simp only [zzn] at ht
      have h3:=zzN ht.1
      have h4:=zzN ht.2
      have e:=gA hp
      subst h3 h4 e
      exact ⟨⟨cs,hc,h2⟩,fun n hn=>hn,.inl rfl⟩
     .cases h
   | _=>simp [eY] at h
 | cS k xs t'=>
   cases B with
   | cS k2 ys t=>
     simp only [eY] at h
     split at h
     .rename_i ht
      cases h
      simp only [zzn] at ht
      have e:=hp _ zzC
      have h3:=zzN ht.1
      have h4:_=_:=zzD ht.2
      subst e h3 h4
      exact ⟨⟨cs,hc,h2⟩,fun n hn=>hn,.inl rfl⟩
     .cases h
   | _=>simp [eY] at h
 | row z ds t'=>
   cases B with
   | row z2 es t=>
     simp only [eY] at h
     split at h
     .rename_i ht
      simp only [zzn] at ht
      have h3:=zzN ht.1
      have h4:=zzN ht.2
      subst h3 h4
      exact ⟨⟨cs,(lE h hp).trans hc,h2⟩,fun n hn=>hn,.inl rfl⟩
     .cases h
   | _=>simp [eY] at h
 | gL k xs=>
   cases B with
   | gL k2 ys=>
     simp only [eY] at h
     split at h
     .rename_i ht
      cases h
      have e:=hp _ zzC
      have h4:_=_:=zzD ht
      subst e h4
      exact ⟨⟨cs,hc,h2⟩,fun n hn=>hn,.inl rfl⟩
     .cases h
   | _=>simp [eY] at h
 | jB GK k' es t'=>
   cases B with
   | jB pre k ds t=>
     simp only [eY] at h
     split at h
     .rename_i ht
      simp only [zzM] at h
      obtain ⟨FG,hr,rfl⟩:=h
      simp only [zzn] at ht
      have h3:=zzN ht.1
      have h4:=zzN ht.2
      have e:=hp _ zzC
      subst h3 h4 e
      have hd:=lE (V:=V) hr (fun q hq=>hp q (zzO _ hq))
      refine ⟨⟨cs,?_,h2⟩,fun n hn=>hn,.inl rfl⟩
      obtain ⟨ys,zs,e1,e2,rfl⟩:=qO (show aG V (pre++Gf k 0 ds)=some cs from hc)
      exact cH (hd.trans e1) e2
     .cases h
   | _=>simp [eY] at h
 | rI ds=>
   cases B with
   | rI es=>
     simp only [eY,zzI] at h
     subst h
     have e:=hp _ zzC
     subst e
     exact ⟨⟨cs,hc,h2⟩,fun n hn=>hn,.inl rfl⟩
   | _=>simp [eY] at h
 | eQ ds t'=>
   cases B with
   | eQ es t=>
     simp only [eY] at h
     split at h
     .rename_i ht
      cases h
      have e:=hp _ zzC
      have h3:=zzN ht
      subst e h3
      exact ⟨⟨cs,hc,h2⟩,fun n hn=>hn,.inl rfl⟩
     .cases h
   | _=>simp [eY] at h
 | nU ds=>
   cases B with
   | nU es=>
     simp only [eY,zzI] at h
     subst h
     have e:=hp _ zzC
     subst e
     exact ⟨⟨cs,hc,h2⟩,fun n hn=>hn,.inl rfl⟩
   | _=>simp [eY] at h
 | gU ds z=>
   cases B with
   | gU es y=>
     simp only [eY,zzI] at h
     subst h
     obtain ⟨e1,e2⟩:=hp _ zzC
     subst e1 e2
     exact ⟨⟨cs,hc,h2⟩,fun n hn=>hn,.inl rfl⟩
   | _=>simp [eY] at h
 | mI ds=>
   cases B with
   | mI es=>
     simp only [eY,zzI] at h
     subst h
     have e:=hp _ zzC
     subst e
     exact ⟨⟨cs,hc,h2⟩,fun n hn=>hn,.inl rfl⟩
   | _=>simp [eY] at h
 | fM ds t'=>
   cases B with
   | fM es t=>
     simp only [eY] at h
     split at h
     .rename_i ht
      cases h
      have e:=hp _ zzC
      have h3:=zzN ht
      subst e h3
      exact ⟨⟨cs,hc,h2⟩,fun n hn=>hn,.inl rfl⟩
     .cases h
   | _=>simp [eY] at h
 | eK us t'=>
   cases B with
   | own es t=>
     simp only [eY] at h
     split at h
     .rename_i ht
      cases h
      have e:=hp _ zzC
      have h3:=zzN ht
      subst h3
      have:some cs=some us:=hc.symm.trans (e V)
      cases this
      exact ⟨⟨_,rfl,h2⟩,fun n hn=>hn,.inl rfl⟩
     .cases h
   | eK vs t=>
     simp only [eY] at h
     split at h
     .rename_i ht
      cases h
      have e:=hp _ zzC
      have h3:=zzN ht
      subst e h3
      exact ⟨⟨cs,hc,h2⟩,fun n hn=>hn,.inl rfl⟩
     .cases h
   | _=>simp [eY] at h
theorem NS {w0:World} {M:Nat->Prop} {V:aZ} {l:Nat} {B C:SB} {ps:List Prop} (h:eY B C=some ps) (hp:∀ q∈ps,q) (hf:lG w0 M V l B):lG w0 M V l C:=by
 cases C with
 | nU ds=>
   cases B with
   | nU es=>
     simp only [eY,zzI] at h
     subst h
     have e:=hp _ zzC
     subst e
     exact hf
   | _=>simp [eY] at h
 | gU ds z=>
   cases B with
   | gU es y=>
     simp only [eY,zzI] at h
     subst h
     obtain ⟨e1,e2⟩:=hp _ zzC
     subst e1 e2
     exact hf
   | _=>simp [eY] at h
 | mI ds=>
   cases B with
   | mI es=>
     simp only [eY,zzI] at h
     subst h
     have e:=hp _ zzC
     subst e
     exact hf
   | _=>simp [eY] at h
 | fM ds t'=>
   cases B with
   | fM es t=>
     simp only [eY] at h
     split at h
     .cases h
      have e:=hp _ zzC
      subst e
      exact hf
     .cases h
   | _=>simp [eY] at h
 | _=>trivial
noncomputable def Cr {α:Type}:List (Nat × α)->Tr α
 | []=>.lf
 | (k,v)::r=>match Tr.put v 64 (Cr r) k with
   | some t=>t
   | none=>.lf
theorem rW {α:Type}:∀ {l:List (Nat × α)} (n:Nat) (v:α),(Cr l).get n=some v->look n l=some v
 | [],n,v,h=>by rw [Cr,Tr.lX] at h;cases h
 | (k,u)::r,n,v,h=>by
   unfold Cr at h
   split at h
   .rename_i t ht
    rw [Tr.iH _ _ _ _ _ ht n] at h
    split at h
    .rename_i e;subst e;cases h;exact aH _ _ _
    .rename_i e;rw [aD (fun q=>e q.symm)];exact rW n v h
   .rw [Tr.lX] at h;cases h
noncomputable def bM (gs:List (Nat × SV)) (tb:List (Nat × SB)) (nx:Nat) (ws:List Nat) (df:List SV):St:={ g:=Cr gs,tb:=Cr tb,nx:=nx,ws:=ws,ob:=[],df:=df,hs:=[] }
noncomputable def St.hint (s:St) (hs:List Bool):St:={ s with hs:=hs }
def Xs (g:Nat->Option SV):List (Nat × SV)->Option (List Prop)
 | []=>some []
 | (t,u)::r=>match g t with
   | some v=>match gN v u,Xs g r with
     | some a,some b=>some (a++b)
     | _,_=>none
   | none=>none
def Xt (g:Nat->Option SB):List (Nat × SB)->Option (List Prop)
 | []=>some []
 | (t,u)::r=>match g t with
   | some v=>match eY v u,Xt g r with
     | some a,some b=>some (a++b)
     | _,_=>none
   | none=>none
def aGr (o:Option SB):Bool:=match o with
 | some _=>true
 | none=>false
noncomputable def KP (F0:Nat) (B:bA) (gs:List (Nat × SV)) (tb:List (Nat × SB)) (nx:Nat) (ws:List Nat) (df:List SV) (s:St):Option (List Prop):=
 match Xs s.g.get gs,Xt (s.T B) tb,vK s.df df with
 | some a,some b,some c=>match Nat.beq s.nx nx&&((s.ws.all fun l=>ws.elem l)&&((ws.all fun l=>aGr ((Cr tb).get l))&&tb.all fun p=>Nat.ble F0 p.1||ws.elem p.1)) with
   | true=>some (a++(b++c))
   | false=>none
 | _,_,_=>none
theorem Qf {g:Nat->Option SV}:∀ {gs:List (Nat × SV)} {ps:List Prop},Xs g gs=some ps->(∀ q∈ps,q)->∀ t u,look t gs=some u->∃ v,g t=some v/\∀ V,den V u=den V v
 | [],ps,h,hp,t,u,hl=>by cases hl
 | (k,u')::r,ps,h,hp,t,u,hl=>by
   simp only [Xs] at h
   split at h
   case h_2=>cases h
   rename_i v hv
   split at h
   case h_2=>cases h
   rename_i a b ha hb
   cases h
   by_cases e:k=t
   .subst e;rw [aH] at hl;cases hl;exact ⟨v,hv,fun V=>kF ha (iM hp)⟩
   .rw [aD e] at hl;exact Qf hb (fF hp) t u hl
theorem Qg {g:Nat->Option SB}:∀ {gs:List (Nat × SB)} {ps:List Prop},Xt g gs=some ps->(∀ q∈ps,q)->∀ t u,look t gs=some u->∃ v FG,g t=some v/\eY v u=some FG/\∀ q∈FG,q
 | [],ps,h,hp,t,u,hl=>by cases hl
 | (k,u')::r,ps,h,hp,t,u,hl=>by
   simp only [Xt] at h
   split at h
   case h_2=>cases h
   rename_i v hv
   split at h
   case h_2=>cases h
   rename_i a b ha hb
   cases h
   by_cases e:k=t
   .subst e;rw [aH] at hl;cases hl;exact ⟨v,a,hv,ha,iM hp⟩
   .rw [aD e] at hl;exact Qg hb (fF hp) t u hl
section
variable {P:Program} {Γ:Env} {w0:World} {M:Nat->Prop} {B:bA} {N F0:Nat} {V0:aZ}
theorem Inv.cast (hb:pZ Γ B F0 V0) {gs:List (Nat × SV)} {tb:List (Nat × SB)} {nx:Nat} {ws:List Nat} {df:List SV} {s:St} {ps:List Prop} (h:KP F0 B gs tb nx ws df s=some ps) (hp:∀ q∈ps,q)
 {V:aZ} {a:Act} {w:World} (hi:Inv P Γ w0 M B N F0 V0 s V a w):Inv P Γ w0 M B N F0 V0 (bM gs tb nx ws df) V a w:=by
 unfold KP at h
 split at h
 case h_2=>cases h
 rename_i pa pb pc ha FY hc
 split at h
 case h_2=>cases h
 rename_i iE
 cases h
 simp only [zzn] at iE
 obtain ⟨k1,k2,k3,k4⟩:=iE
 have k1:=zzN k1
 subst k1
 have k2:∀ l,l∈s.ws->l∈ws:=fun l hl=>by simpa using List.all_eq_true.1 k2 l hl
 have hG:=Qf ha (iM hp)
 have hB:=Qg FY (iM (fF hp))
 have hD:aG V df=aG V s.df:=lE hc (fF (fF hp))
 have src:∀ l b,(Cr tb).get l=some b->∃ C,s.T B l=some C/\okB V w l b/\(∀ n,b.aN V l=some n->C.aN V l=some n)/\(b.owned=C.owned\/b = .gone)/\lG w0 M V l b:=by
  intro l b hl
  obtain ⟨C,FG,h4,h2,h3⟩:=hB l b (rW l b hl)
  obtain ⟨r1,r2,r3⟩:=aBd h2 h3 (hi.eI.ok l C h4)
  exact ⟨C,h4,r1,r2,r3,NS h2 h3 (hi.eI.tV l C h4)⟩
 have low:∀ l,(Cr tb).get l=none->∀ b,B l=some b->s.T B l=some b:=by
  intro l hl b Ww
  have cM:l<F0:=by
   apply Nat.lt_of_not_le
   intro q
   rw [hb.cut l q] at Ww
   cases Ww
  have hnw:l ∉ s.ws:=fun hm=>by
   have:=List.all_eq_true.1 k3 l (k2 l hm)
   rw [hl] at this
   cases this
  simp only [St.T,hi.ch l cM hnw,Ww]
 have AU:∀ l b,(bM gs tb s.nx ws df).T B l=some b->∃ C,s.T B l=some C/\okB V w l b/\(∀ n,b.aN V l=some n->C.aN V l=some n)/\(b.owned=C.owned\/b = .gone)/\lG w0 M V l b:=by
  intro l b hl
  simp only [St.T,bM] at hl
  cases hg:(Cr tb).get l with
  | some b'=>rw [hg] at hl;cases hl;exact src l _ hg
  | none=>
    rw [hg] at hl
    have:=low l hg b hl
    exact ⟨b,this,hi.eI.ok l b this,fun n hn=>hn,.inl rfl,hi.eI.tV l b this⟩
 refine ⟨fun t v hv=>?_,fun d v hv=>?_,hi.size,?_,⟨fun l b hl=>?_,fun l b l' b' n dG hl sP ho Mp BH=>?_,fun l b n hl ho Mp=>?_,hi.eI.frame,fun l b hl=>(AU l b hl).choose_spec.2.2.2.2⟩,hi.aT,hi.top,hi.le,hi.low,fun l hl hn=>?_,hi.nx,fun l hl=>?_⟩
 .obtain ⟨u,h1,h2⟩:=hG t v (rW t v hv)
  rw [h2]
  exact hi.tmp t u h1
 .obtain ⟨u,h1,_⟩:=hG d v (rW d v hv)
  exact hi.keys d u h1
 .obtain ⟨xs,h1,h2⟩:=hi.defers
  exact ⟨xs,hD.trans h1,h2⟩
 .exact (AU l b hl).choose_spec.2.1
 .obtain ⟨C,h1,_,h3,h4,_⟩:=AU l b hl
  obtain ⟨C',Gk,_,h3',_⟩:=AU l' b' sP
  have hCo:C.owned=true:=by
   rcases h4 with h4 | h4
   .rw [<- h4];exact ho
   .subst h4;cases ho
  exact hi.eI.jX l C l' C' n dG h1 Gk hCo (h3 n Mp) (h3' n BH)
 .obtain ⟨C,h1,_,h3,h4,_⟩:=AU l b hl
  have hCo:C.owned=true:=by
   rcases h4 with h4 | h4
   .rw [<- h4];exact ho
   .subst h4;cases ho
  exact hi.eI.perm l C n h1 hCo (h3 n Mp)
 .cases hg:(Cr tb).get l with
  | none=>exact hg
  | some b=>
    have hm:=List.all_eq_true.1 k4 _ (gC (rW l b hg))
    simp only [Bool.or_eq_true] at hm
    rcases hm with hm | hm
    .have:=zzL hm;omega
    .exact absurd (show l∈ws by simpa using hm) hn
 .cases hg:(bM gs tb s.nx ws df).T B l with
  | none=>rfl
  | some b=>obtain ⟨C,h1,_⟩:=AU l b hg;rw [hi.hi l hl] at h1;cases h1
noncomputable def TM (F0:Nat) (B:bA) (eT:List Nat) (gs:List (Nat × SV)) (tb:List (Nat × SB)) (nx:Nat) (ws:List Nat) (df:List SV) (r:Option oY):Option (Cf × List Fr × List Prop):=match r with
 | some r=>match Xi F0 (gs.map (·.1)) eT [] r.st with
   | some s=>match KP F0 B gs tb nx ws df s with
     | some ps=>some (r.cf,r.fr,r.st.ob++ps)
     | none=>none
   | none=>none
 | none=>none
theorem G.to (aR:cC P Γ) (aU:cK P Γ) (jO:P.follows .mixedOrders=true) (hb:pZ Γ B F0 V0) {stops:List Nat} {lf n:Nat} {cf FA:Cf} {K K':List Fr} {s:St} (hs:List Bool) {eT:List Nat} {gs:List (Nat × SV)} {tb:List (Nat × SB)} {nx:Nat} {ws:List Nat} {df:List SV} {ps:List Prop} {Q:Exit->Act->World->Prop}
 (h:TM F0 B eT gs tb nx ws df (gV Γ B F0 N stops lf n cf K (s.hint hs))=some (FA,K',ps)) (hp:∀ q∈ps,q) (hG:G P Γ w0 M B N F0 V0 FA K' (bM gs tb nx ws df) Q):G P Γ w0 M B N F0 V0 cf K s Q:=by
 unfold TM at h
 split at h
 case h_2=>cases h
 rename_i r hr
 split at h
 case h_2=>cases h
 rename_i s1 h1
 split at h
 case h_2=>cases h
 rename_i FG h2
 cases h
 have dS:G P Γ w0 M B N F0 V0 cf K (s.hint hs) Q:=by
  refine G.run aR aU jO hr (iM hp) (G.norm hb h1 ?_)
  intro V a w hi
  exact hG V a w (hi.cast hb h2 (fF hp))
 intro V a w hi
 exact dS V a w (hi.hints s.ob hs)
theorem G.round (aR:cC P Γ) (aU:cK P Γ) (jO:P.follows .mixedOrders=true) (hb:pZ Γ B F0 V0) {stops:List Nat} {lf n:Nat} {cf:Cf} {K1 K:List Fr} {s:St} (hs:List Bool) {eT:List Nat} {gs:List (Nat × SV)} {tb:List (Nat × SB)} {nx:Nat} {ws:List Nat} {df:List SV} {ps:List Prop} {Q:Exit->Act->World->Prop} {S:Nat->St->Prop} {r:Nat}
 (h:TM F0 B eT gs tb nx ws df (gV Γ B F0 N stops lf n cf K1 (s.hint hs))=some (.at .normal,[],ps)) (hp:∀ q∈ps,q) (r':Nat) (cM:r'<r) (hS:S r' (bM gs tb nx ws df)) :
 G P Γ w0 M B N F0 V0 cf K1 s (Exit.then (fun a w=>∃ r',r'<r/\∃ s',S r' s'/\∃ V,Inv P Γ w0 M B N F0 V0 s' V a w) (KQ P K Q)):=
 G.to aR aU jO hb hs h hp (G.again fun V _ _ hi=>⟨r',cM,_,hS,V,hi⟩)
noncomputable def Nk (Γ:Env) (T:bA) (lab F:Nat) (fn:Func) (r:Option oY):Option bL:=match r with
 | some r=>match r.cf,r.fr with
   | .at x,[]=>Gz Γ T lab F fn x r.st
   | _,_=>none
 | none=>none
theorem DI {F lab:Nat} {s:St} {v:SV} {e:bL} (h:finish F lab s v=some e):e.bK=s.ob:=by
 unfold finish at h
 split at h
 .cases h
 .simp only at h
  split at h
  .cases h;rfl
  .cases h
theorem Zt {Γ:Env} {T:bA} {lab F:Nat} {fn:Func} {x:Ex} {s:St} {e:bL} (h:Gz Γ T lab F fn x s=some e):∀ q∈s.ob,q∈e.bK:=by
 have main:(match lI Γ (aY F T) F fn.ntmps s.df s with
   | some s=>match Cv Γ s.g.get (s.T (aY F T)) fn.results.toList with
     | some (ob,rs)=>finish F lab (s.TQ ob) (res rs)
     | none=>none
   | none=>none)=some e->∀ q∈s.ob,q∈e.bK:=by
  intro h q hq
  split at h
  case h_2=>cases h
  rename_i s2 h2
  split at h
  case h_2=>cases h
  rw [DI h]
  exact List.mem_append_right _ (xE h2 q hq)
 cases x with
 | exit id=>cases h
 | normal=>exact main h
 | ret=>exact main h
theorem G.fin (aR:cC P Γ) (aU:cK P Γ) (jO:P.follows .mixedOrders=true) {T:bA} {lab:Nat} {fn:Func} {e e':bL} {stops:List Nat} {lf n:Nat} {cf:Cf} {K:List Fr} {s:St} (hs:List Bool) {Q:Exit->Act->World->Prop}
 (H:∀ x s e',Gz Γ T lab F0 fn x s=some e'->(∀ q∈e'.bK,q)->e'.val=e.val->e'.new=e.new->e'.wr=e.wr->G P Γ w0 M (aY F0 T) fn.ntmps F0 V0 (.at x) [] s Q)
 (h:Nk Γ T lab F0 fn (gV Γ (aY F0 T) F0 fn.ntmps stops lf n cf K (s.hint hs))=some e') (hp:∀ q∈e'.bK,q) (h1:e'.val=e.val) (h2:e'.new=e.new) (h3:e'.wr=e.wr) :
 G P Γ w0 M (aY F0 T) fn.ntmps F0 V0 cf K s Q:=by
 unfold Nk at h
 split at h
 case h_2=>cases h
 rename_i r hr
 split at h
 case h_2=>cases h
 rename_i x hx hf
 have dS:G P Γ w0 M (aY F0 T) fn.ntmps F0 V0 cf K (s.hint hs) Q:=by
  refine G.run aR aU jO hr (fun q hq=>hp q (Zt h q hq)) ?_
  rw [hx,hf]
  exact H x r.st e' h hp h1 h2 h3
 intro V a w hi
 exact dS V a w (hi.hints s.ob hs)
end
def cZ (T:bA) (k:IntKind):SV->Option (List Prop × List Int)
 | .raw (.slice none 0 0)=>some ([],[])
 | .aJ l _ off len cap=>match T l with
   | some (.ints k2 xs _)=>match pD k k2 with
     | true=>some ([off+len<=xs.length/\len<=cap],(xs.drop off).take len)
     | false=>none
   | some (.nZ k2 xs)=>match pD k k2 with
     | true=>some ([off+len<=xs.length/\len<=cap],(xs.drop off).take len)
     | false=>none
   | some (.own cs _)=>match dA k cs with
     | some xs=>some ([off+len<=xs.length/\len<=cap],(xs.drop off).take len)
     | none=>none
   | some (.fS cs)=>match dA k cs with
     | some xs=>some ([off+len<=xs.length/\len<=cap],(xs.drop off).take len)
     | none=>none
   | _=>none
 | .buf l=>match T l with
   | some (.cS k2 xs _)=>match pD k k2 with
     | true=>some ([],xs)
     | false=>none
   | _=>none
 | .nH l lo hi=>match T l with
   | some (.cS k2 xs _)=>match pD k k2 with
     | true=>some ([lo<=hi/\hi<=xs.length],(xs.drop lo).take (hi-lo))
     | false=>none
   | _=>none
 | .eH l _=>match T l with
   | some (.gL k2 xs)=>match pD k k2 with
     | true=>some ([],xs)
     | false=>none
   | some (.nU xs)=>match pD k .u8 with
     | true=>some ([],xs)
     | false=>none
   | _=>none
 | .cQ l off len lo=>match T l with
   | some (.row sz cs _)=>match Nat.beq sz 1,dA k cs with
     | true,some xs=>some ([off+len<=xs.length/\lo<=off],(xs.drop off).take len)
     | _,_=>none
   | _=>none
 | .xZ l i _=>match T l,pD k .u8 with
   | some (.mI ds),true=>some ([],ds.getD i [])
   | some (.fM ds _),true=>some ([],ds.getD i [])
   | _,_=>none
 | _=>none
section
variable {w0 w:World} {M:Nat->Prop} {V:aZ} {T:bA}
theorem BU {k:IntKind} {v:SV} {x:Value} {ob:List Prop} {ys:List Int} (dG:∀ l i n,v ≠ .xZ l i n) (hnf:∀ l n d,v = .eH l n->T l≠some (.nU d)) (hT:aC w0 M V T w) (hv:den V v=some x) (h:cZ T k v=some (ob,ys)) (ho:∀ q∈ob,q) :
 nI w k x ys/\∀ n,eV x=some n->∃ l B,vQ v=some l/\T l=some B/\B.aN V l=some n:=by
 have aJ:∀ (l:Nat) (B:SB) (s:Bool) (off len cap:Nat) (xs:List Int),v = .aJ l s off len cap->T l=some B->B.cells V=some (xs.map (Value.int k)) ->
  (∀ b o,V.β l=some (b,o)->b<w.heap.size/\B.aN V l=some b/\∀ (j:Nat) (u:Value),(xs.map (Value.int k))[j]?=some u->w.cell? ⟨b,o+j,none⟩=some u) ->
  off+len<=xs.length->len<=cap->ys=(xs.drop off).take len->nI w k x ys/\∀ n,eV x=some n->∃ l B,vQ v=some l/\T l=some B/\B.aN V l=some n:=by
  intro l B s off len cap xs hvv hB hc fE h1 h2 rK
  subst hvv
  simp only [den,zzM] at hv
  obtain ⟨⟨b,o⟩,hβ,rfl⟩:=hv
  obtain ⟨g1,g2,g3⟩:=fE b o hβ
  have hlen:ys.length=len:=by rw [rK];simp;omega
  refine ⟨.inr ⟨b,o+off,cap,by rw [hlen],g1,by omega,fun j u hj=>?_⟩,fun n hn=>?_⟩
  .rw [Nat.add_assoc]
   apply g3
   rw [rK] at hj
   simp only [List.map_take,List.map_drop,List.getElem?_take] at hj
   split at hj
   .rwa [List.getElem?_drop] at hj
   .cases hj
  .cases eC hn
   exact ⟨l,B,rfl,hB,g2⟩
 unfold cZ at h
 split at h
 .cases h
  simp only [den,zzI] at hv
  subst hv
  exact ⟨.inl ⟨.nil,rfl⟩,fun n hn=>by cases hn⟩
 .rename_i l s off len cap
  split at h
  .rename_i k2 xs ty hB
   split at h
   case h_2=>cases h
   rename_i hk
   have hk:k=k2:=zzD hk
   subst hk
   cases h
   obtain ⟨h1,h2⟩:=ho _ zzC
   obtain ⟨cs,hc,b',iO,hh⟩:=hT.ok l _ hB
   cases hc
   refine aJ l _ s off len cap xs rfl hB rfl (fun b o hβ=>?_) h1 h2 rfl
   rw [hβ] at iO;cases iO
   exact ⟨(Array.getElem?_eq_some_iff.1 hh).1,by simp [SB.aN,hβ],fun j u hj=>by rw [cell_of_row w _ (0+j) _ _ _ hh];simpa using hj⟩
  .rename_i k2 xs hB
   split at h
   case h_2=>cases h
   rename_i hk
   have hk:k=k2:=zzD hk
   subst hk
   cases h
   obtain ⟨h1,h2⟩:=ho _ zzC
   obtain ⟨cs,hc,b',o',iO,cM,hh⟩:=hT.ok l _ hB
   cases hc
   refine aJ l _ s off len cap xs rfl hB rfl (fun b o hβ=>?_) h1 h2 rfl
   rw [hβ] at iO;cases iO
   exact ⟨cM.lt,by simp [SB.aN,hβ],hh⟩
  .rename_i cells ty hB
   split at h
   case h_2=>cases h
   rename_i xs hk
   cases h
   obtain ⟨h1,h2⟩:=ho _ zzC
   obtain ⟨cs,hc,b',iO,hh⟩:=hT.ok l _ hB
   have e:some cs=some _:=hc.symm.trans (cX hk)
   cases e
   refine aJ l _ s off len cap xs rfl hB hc (fun b o hβ=>?_) h1 h2 rfl
   rw [hβ] at iO;cases iO
   exact ⟨(Array.getElem?_eq_some_iff.1 hh).1,by simp [SB.aN,hβ],fun j u hj=>by rw [cell_of_row w _ (0+j) _ _ _ hh];simpa using hj⟩
  .rename_i cells hB
   split at h
   case h_2=>cases h
   rename_i xs hk
   cases h
   obtain ⟨h1,h2⟩:=ho _ zzC
   obtain ⟨cs,hc,b',o',iO,cM,hh⟩:=hT.ok l _ hB
   have e:some cs=some _:=hc.symm.trans (cX hk)
   cases e
   refine aJ l _ s off len cap xs rfl hB hc (fun b o hβ=>?_) h1 h2 rfl
   rw [hβ] at iO;cases iO
   exact ⟨cM.lt,by simp [SB.aN,hβ],hh⟩
  .cases h
 .rename_i l
  split at h
  case h_2=>cases h
  rename_i k2 xs ty hB
  split at h
  case h_2=>cases h
  rename_i hk
  have hk:k=k2:=zzD hk
  subst hk
  cases h
  obtain ⟨cs,hc,u,hσ,bN⟩:=hT.ok l _ hB
  cases hc
  simp only [den,hσ,zzI] at hv
  subst hv
  refine ⟨?_,fun n hn=>⟨l,_,rfl,hB,by simp [SB.aN,hσ,eC hn]⟩⟩
  rcases bN.1.2 with ⟨rfl,h0⟩ | ⟨gb,cap,cur,rfl,_,hh,hle,_,_,cT⟩
  .exact .inl ⟨.nil,List.eq_nil_of_length_eq_zero h0⟩
  .refine .inr ⟨gb,0,cap,rfl,(Array.getElem?_eq_some_iff.1 hh).1,hle,fun j u hj=>?_⟩
   rw [cell_of_row w gb _ _ _ _ hh]
   rw [<- cT,List.getElem?_take] at hj
   split at hj
   .simpa using hj
   .cases hj
 .rename_i l lo hi
  split at h
  case h_2=>cases h
  rename_i k2 xs ty hB
  split at h
  case h_2=>cases h
  rename_i hk
  have hk:k=k2:=zzD hk
  subst hk
  cases h
  obtain ⟨h1,h2⟩:=ho _ zzC
  obtain ⟨cs,hc,u,hσ,bN⟩:=hT.ok l _ hB
  cases hc
  have hlen:((xs.drop lo).take (hi-lo)).length=hi-lo:=by simp;omega
  rcases bN.1.2 with ⟨rfl,h0⟩ | ⟨gb,cap,cur,rfl,_,hh,hle,_,_,cT⟩
  .have:xs=[]:=List.eq_nil_of_length_eq_zero h0
   subst this
   have e0:lo=0/\hi=0:=by simp at h2;omega
   obtain ⟨rfl,rfl⟩:=e0
   simp only [den,hσ,zzI] at hv
   subst hv
   exact ⟨.inl ⟨⟨none,by simp⟩,by simp⟩,fun n hn=>by cases eC hn⟩
  .simp only [den,hσ,zzI] at hv
   by_cases qS:cap=lo
   .rw [if_pos qS] at hv
    subst hv
    refine ⟨.inr ⟨gb,0,cap-lo,by rw [hlen],(Array.getElem?_eq_some_iff.1 hh).1,by omega,fun j u hj=>?_⟩,fun n hn=>⟨l,_,rfl,hB,by simpa [SB.aN,hσ,Value.ownBlock] using eC hn⟩⟩
    have h0:hi-lo=0:=by omega
    rw [h0] at hj
    simp at hj
   .rw [if_neg qS,zzm,bH] at hv
    subst hv
    refine ⟨.inr ⟨gb,0+lo,cap-lo,by rw [hlen],(Array.getElem?_eq_some_iff.1 hh).1,by omega,fun j u hj=>?_⟩,fun n hn=>⟨l,_,rfl,hB,by simpa [SB.aN,hσ,Value.ownBlock] using eC hn⟩⟩
    rw [cell_of_row w gb _ _ _ _ hh]
    have h5:(xs.map (Value.int k))[lo+j]?=some u:=by
     simp only [List.map_take,List.map_drop,List.getElem?_take] at hj
     split at hj
     .rwa [List.getElem?_drop] at hj
     .cases hj
    rw [<- cT,List.getElem?_take] at h5
    split at h5
    .simpa using h5
    .cases h5
 .rename_i l n0
  split at h
  case h_3=>cases h
  case h_2=>rename_i xs hB;exact absurd hB (hnf l n0 xs rfl)
  rename_i k2 xs hB
  split at h
  case h_2=>cases h
  rename_i hk
  have hk:k=k2:=zzD hk
  subst hk
  cases h
  obtain ⟨cs,hc,u,hσ,bN⟩:=hT.ok l _ hB
  cases hc
  simp only [den,zzB] at hv
  obtain ⟨u',fY,hv⟩:=hv
  rw [hσ] at fY
  cases fY
  obtain ⟨rfl,_⟩:=dB hv
  refine ⟨?_,fun n hn=>⟨l,_,rfl,hB,by simp [SB.aN,hσ,hn]⟩⟩
  exact bN
 .rename_i l off len lo
  split at h
  case h_2=>cases h
  rename_i sz cells ty hB
  split at h
  case h_2=>cases h
  rename_i xs gR hk
  cases h
  have gR:=zzN gR
  subst gR
  obtain ⟨h1,h2⟩:=ho _ zzC
  obtain ⟨cs,hc,b,cap,cur,hβ,hσ,hh,hle,mK,⟨n,hn,UF⟩,cT⟩:=hT.ok l _ hB
  have e:some cs=some _:=hc.symm.trans (cX hk)
  cases e
  simp only [den,hβ,hσ,oD,zza,zzm,zzI] at hv
  subst hv
  have hlen:((xs.drop off).take len).length=len:=by simp;omega
  simp only [List.length_map,Nat.mul_one] at hn
  refine ⟨.inr ⟨b,0+off,cap-lo,by simp only [zzt,hlen],(Array.getElem?_eq_some_iff.1 hh).1,by omega,fun j u hj=>?_⟩,fun n hn=>⟨l,_,rfl,hB,by simpa [SB.aN,hβ,Value.ownBlock] using eC hn⟩⟩
  rw [cell_of_row w b _ _ _ _ hh]
  have h5:(xs.map (Value.int k))[off+j]?=some u:=by
   simp only [List.map_take,List.map_drop,List.getElem?_take] at hj
   split at hj
   .rwa [List.getElem?_drop] at hj
   .cases hj
  rw [<- cT,List.getElem?_take] at h5
  split at h5
  .simpa using h5
  .cases h5
 .exact absurd rfl (dG _ _ _)
 .cases h
theorem xC {k:IntKind} {v:SV} {x:Value} {ob:List Prop} {ys:List Int} (hT:aC w0 M V T w) (hv:den V v=some x) (h:cZ T k v=some (ob,ys)) (ho:∀ q∈ob,q) :
 nI w k x ys/\∀ n,eV x=some n->(∃ l B,vQ v=some l/\T l=some B/\B.aN V l=some n)\/(n<w0.heap.size/\¬ M n):=by
 by_cases dG:∃ l i n,v = .xZ l i n
 .obtain ⟨l,i,n,rfl⟩:=dG
  have fin:∀ {B:SB} {ds:List (List Int)},T l=some B->vP B=some ds->pD k .u8=true->ys=ds.getD i []->nI w k x ys/\∀ n,eV x=some n->(∃ l' B,vQ (.xZ l i n)=some l'/\T l'=some B/\B.aN V l'=some n)\/(n<w0.heap.size/\¬ M n):=by
   intro B ds hB hd hk hy
   have hk:k = .u8:=zzD hk
   subst hk hy
   obtain ⟨_,_,_,_,hf,_⟩:=Ti hT hv hB hd
   exact ⟨hf.1.gO hT.frame.size fun m hm=>hT.frame.block m (hf.2 m hm).1 (hf.2 m hm).2,fun m hm=>.inr (hf.2 m hm)⟩
  simp only [cZ] at h
  split at h
  .rename_i ds hB hk
   cases h
   obtain ⟨h1,h2⟩:=fin hB rfl hk rfl
   exact ⟨h1,fun m hm=>.inr ((h2 m hm).resolve_left (fun ⟨_,_,q,_⟩=>by cases q))⟩
  .rename_i ds ty hB hk
   cases h
   obtain ⟨h1,h2⟩:=fin hB rfl hk rfl
   exact ⟨h1,fun m hm=>.inr ((h2 m hm).resolve_left (fun ⟨_,_,q,_⟩=>by cases q))⟩
  .cases h
 .by_cases hnf:∃ l n d,v = .eH l n/\T l=some (.nU d)
  .obtain ⟨l,n,d,rfl,hB⟩:=hnf
   simp only [cZ,hB] at h
   split at h
   .rename_i hk
    have hk:k = .u8:=zzD hk
    subst hk
    cases h
    obtain ⟨u,hσ,hf⟩:=hT.tV l _ hB
    simp only [den,hσ,zza] at hv
    have e:=(dB hv).1
    subst e
    exact ⟨hf.1.gO hT.frame.size fun m hm=>hT.frame.block m (hf.2 m hm).1 (hf.2 m hm).2,fun m hm=>.inr (hf.2 m hm)⟩
   .cases h
  .obtain ⟨h1,h2⟩:=BU (fun l i n e=>dG ⟨l,i,n,e⟩) (fun l n d e q=>hnf ⟨l,n,d,e,q⟩) hT hv h ho
   exact ⟨h1,fun n hn=>.inl (h2 n hn)⟩
def yU:SB->Option (List SV)
 | .row sz cs _=>match Nat.beq sz 1 with
   | true=>some cs
   | false=>none
 | .own cs _=>some cs
 | .fS cs=>some cs
 | _=>none
theorem Jl {l:Nat} {B:SB} {cs:List SV} (lQ:okB V w l B) (h:yU B=some cs):∃ xs b o,aG V cs=some xs/\V.β l=some (b,o)/\b<w.heap.size/\∀ (j:Nat) (v:Value),xs[j]?=some v->w.cell? ⟨b,o+j,none⟩=some v:=by
 obtain ⟨xs,mJ,h2⟩:=lQ
 cases B with
 | row sz cells ty=>
   simp only [yU] at h
   split at h
   case h_2=>cases h
   cases h
   obtain ⟨b,cap,cur,hβ,_,hh,_,_,_,cT⟩:=h2
   refine ⟨xs,b,0,mJ,hβ,(Array.getElem?_eq_some_iff.1 hh).1,fun j v hj=>?_⟩
   rw [cell_of_row w b (0+j) _ _ _ hh]
   rw [<- cT,List.getElem?_take] at hj
   split at hj
   .simpa using hj
   .cases hj
 | own cells ty=>
   cases h
   obtain ⟨b,hβ,hh⟩:=h2
   refine ⟨xs,b,0,mJ,hβ,(Array.getElem?_eq_some_iff.1 hh).1,fun j v hj=>?_⟩
   rw [cell_of_row w b (0+j) _ _ _ hh]
   simpa using hj
 | fS cells=>
   cases h
   obtain ⟨b,o,hβ,cM,hh⟩:=h2
   exact ⟨xs,b,o,mJ,hβ,cM.lt,hh⟩
 | _=>cases h
def rdP (T:bA):List SV->Option (List Prop × List (List Int))
 | []=>some ([],[])
 | v::r=>match cZ T .u8 v,rdP T r with
   | some (ob,d),some (ob2,ps)=>some (ob++ob2,d::ps)
   | _,_=>none
theorem Tj (hT:aC w0 M V T w):∀ {cs:List SV} {ob:List Prop} {ps:List (List Int)} {us:List Value},rdP T cs=some (ob,ps)->(∀ q∈ob,q)->aG V cs=some us->us.length=ps.length/\∀ (i:Nat) (u:Value) (d:List Int),us[i]?=some u->ps[i]?=some d->nI w .u8 u d
 | [],ob,ps,us,h,_,hd=>by
   cases h
   simp only [aG,zzI] at hd
   subst hd
   exact ⟨rfl,fun i u d hu=>by simp at hu⟩
 | v::r,ob,ps,us,h,ho,hd=>by
   simp only [rdP] at h
   split at h
   case h_2=>cases h
   rename_i o1 d1 o2 p2 h1 h2
   cases h
   simp only [aG,zzM,zzB] at hd
   obtain ⟨x,hx,ys,hy,rfl⟩:=hd
   obtain ⟨g1,g2⟩:=Tj hT h2 (fun q hq=>ho q (List.mem_append_right _ hq)) hy
   have g3:=(xC hT hx h1 (fun q hq=>ho q (List.mem_append_left _ hq))).1
   refine ⟨by simp [g1],fun i u d hu hd=>?_⟩
   cases i with
   | zero=>simp only [List.getElem?_cons_zero,zzI] at hu hd;subst hu hd;exact g3
   | succ i=>exact g2 i u d (by simpa using hu) (by simpa using hd)
theorem nI.frozen {x:Value} {ys:List Int} (h:nI w .u8 x ys):dM w (fun _=>False) x ys:=by
 refine ⟨h,fun n hn=>⟨?_,fun q=>q⟩⟩
 rcases h with ⟨⟨a,rfl⟩,_⟩ | ⟨b,o,c,rfl,cM,_⟩
 .cases hn
 .cases eC hn;exact cM
def Il (T:bA) (vw:Vw):Prop:=∀ l0 v cs,vw l0=some (.Mq v cs)->match v with
 | .aJ l _ _ _ _=>∃ B,T l=some B/\yU B=some cs
 | .cQ l _ _ _=>∃ pre k ds ty,T l=some (.jB pre k ds ty)/\cs=pre++Gf k 0 ds
 | _=>True
mutual
def kV (vw:Vw) (T0:List (Nat × SB)) (T:bA):SV->SV->Option (List Prop)
 | .ptr l s o,.ptr l0 s' o'=>match vw l0 with
   | some (.lab l' off)=>match Nat.beq l l' with
     | true=>some (Ge s s' o (off+o'))
     | false=>none
   | _=>none
 | .aJ l s o n c,.aJ l0 s' o' n' c'=>match vw l0 with
   | some (.lab l' off)=>match Nat.beq l l' with
     | true=>some (Ge s s' o (off+o')++(Ge s s' n n'++Ge s s' c c'))
     | false=>none
   | _=>none
 | .buf l,.buf l0=>match vw l0 with
   | some (.lab l' 0)=>match Nat.beq l l' with
     | true=>some []
     | false=>none
   | _=>none
 | .cQ l o n lo,.cQ l0 o' n' TW=>match vw l0 with
   | some (.lab l' 0)=>match Nat.beq l l'&&(Nat.beq o o'&&Nat.beq lo TW) with
     | true=>some (Ge false false n n')
     | false=>none
   | _=>none
 | .tZ l n,.tZ l0 n0=>match vw l0 with
   | some (.lab l' 0)=>match Nat.beq l l' with
     | true=>some (Ge false false n n0)
     | false=>none
   | _=>none
 | .cQ l o n lo,.tZ l0 n0=>match vw l0,T l with
   | some (.Mq (.cQ l' o' n' TW) _),some (.jB pre _ ds _)=>match Nat.beq l l'&&(Nat.beq o 0&&(Nat.beq lo 0&&(Nat.beq o' 0&&Nat.beq TW 0))) with
     | true=>some [n=n0/\n'=n/\n=pre.length+ds.length]
     | false=>none
   | _,_=>none
 | .aJ l s o n c,.tZ l0 n0=>match vw l0 with
   | some (.Mq (.aJ l' s' o' n' c') _)=>match Nat.beq l l' with
     | true=>some (Ge s s' o o'++(Ge s s' n n'++(Ge s s' c c'++[n=n0/\n<=c])))
     | false=>none
   | _=>none
 | v,.eH l0 n0=>match vw l0,look l0 T0 with
   | some (.val u),some (.gL k _)=>match gN u v,cZ T k v with
     | some p,some (ob,xs)=>some (p++(ob++[n0=xs.length]))
     | _,_=>none
   | some (.val u),some (.rI _)=>match gN u v,Ht T v with
     | some p,some xs=>some (p++[n0=xs.length])
     | _,_=>none
   | _,_=>none
 | .rG t v,.rG t' v'=>match Nat.beq t t' with
   | true=>kV vw T0 T v v'
   | false=>none
 | .agg vs,.agg us=>Dc vs us (uF vw T0 T vs us)
 | .eP vs,.eP us=>uF vw T0 T vs us
 | .fn (.func f) xs ys,.fn (.func g) us vs=>match Nat.beq f g with
   | true=>match uF vw T0 T xs us,uF vw T0 T ys vs with
     | some a,some b=>some (a++b)
     | _,_=>none
   | false=>none
 | v,u=>match fH v&&fH u with
   | true=>gN v u
   | false=>none
def uF (vw:Vw) (T0:List (Nat × SB)) (T:bA):List SV->List SV->Option (List Prop)
 | [],[]=>some []
 | v::r,u::t=>match kV vw T0 T v u,uF vw T0 T r t with
   | some a,some b=>some (a++b)
   | _,_=>none
 | _,_=>none
end
mutual
theorem Zj {vw:Vw} {T0:List (Nat × SB)} (oP:Il T vw) (hT:aC w0 M V T w):∀ {u v:SV} {ps:List Prop},kV vw T0 T v u=some ps->(∀ q∈ps,q)->∀ x,den V v=some x->den (seen vw V) u=some x
 | .ptr l0 s' o',v,ps,h,hp,x,hx=>by
   cases v <;> simp only [kV,fH,Bool.and_false] at h <;> first | (cases h;done) | skip
   split at h
   .rename_i l' off hl
    split at h
    .rename_i hb
     have hb:=zzN hb
     subst hb
     cases h
     have e:=gA hp
     subst e
     simp only [den,zzM] at hx |-
     obtain ⟨p,hp,rfl⟩:=hx
     exact ⟨(p.1,p.2+off),by rw [(kE hl).1,hp];rfl,by simp only [Nat.add_assoc]⟩
    .cases h
   .cases h
 | .aJ l0 s' o' n' c',v,ps,h,hp,x,hx=>by
   cases v <;> simp only [kV,fH,Bool.and_false] at h <;> first | (cases h;done) | skip
   split at h
   .rename_i l' off hl
    split at h
    .rename_i hb
     have hb:=zzN hb
     subst hb
     cases h
     have e1:=gA (iM hp)
     have e2:=gA (iM (fF hp))
     have e3:=gA (fF (fF hp))
     subst e1 e2 e3
     simp only [den,zzM] at hx |-
     obtain ⟨p,hp,rfl⟩:=hx
     exact ⟨(p.1,p.2+off),by rw [(kE hl).1,hp];rfl,by simp only [Nat.add_assoc]⟩
    .cases h
   .cases h
 | .buf l0,v,ps,h,hp,x,hx=>by
   cases v <;> simp only [kV,fH,Bool.and_false] at h <;> first | (cases h;done) | skip
   split at h
   .rename_i l' hl
    split at h
    .rename_i hb
     have hb:=zzN hb
     subst hb
     simp only [den] at hx |-
     rw [(kE hl).2,hx]
    .cases h
   .cases h
 | .cQ l0 o' n' TW,v,ps,h,hp,x,hx=>by
   cases v <;> simp only [kV,fH,Bool.and_false] at h <;> first | (cases h;done) | skip
   split at h
   .rename_i l' hl
    split at h
    .rename_i hb
     simp only [zzn] at hb
     obtain ⟨b1,b2,b3⟩:=hb
     have b1:=zzN b1
     have b2:=zzN b2
     have b3:=zzN b3
     subst b1 b2 b3
     cases h
     have e:=gA hp
     subst e
     simp only [den,zzM,zzB] at hx |-
     obtain ⟨p,hp,c,hc,rfl⟩:=hx
     refine ⟨p,by rw [(kE hl).1,hp];rfl,c,by rw [(kE hl).2];exact hc,rfl⟩
    .cases h
   .cases h
 | .eH l0 n0,v,ps,h,hp,x,hx=>by
   have key:(match vw l0,look l0 T0 with
    | some (.val u),some (.gL k _)=>match gN u v,cZ T k v with
      | some p,some (ob,xs)=>some (p++(ob++[n0=xs.length]))
      | _,_=>none
    | some (.val u),some (.rI _)=>match gN u v,Ht T v with
      | some p,some xs=>some (p++[n0=xs.length])
      | _,_=>none
    | _,_=>none)=some ps:=by cases v <;> simpa only [kV] using h
   split at key
   case h_3=>cases key
   .rename_i u k ys AJ FQ
    split at key
    case h_2=>cases key
    rename_i p ob xs h1 h2
    cases key
    have hd:den V v=den V u:=kF h1 (iM hp)
    obtain ⟨hr,_⟩:=xC hT hx h2 (iM (fF hp))
    have hn:n0=xs.length:=(fF (fF hp)) _ zzC
    simp only [den,zzB]
    exact ⟨x,by rw [xD AJ,<- hd,hx],by rw [hn];exact hr.eH⟩
   .rename_i u ys AJ FQ
    split at key
    case h_2=>cases key
    rename_i p xs h1 h2
    cases key
    have hd:den V v=den V u:=kF h1 (iM hp)
    obtain ⟨hr,_⟩:=Ep hT hx h2
    have hn:n0=xs.length:=(fF hp) _ zzC
    simp only [den,zzB]
    exact ⟨x,by rw [xD AJ,<- hd,hx],by rw [hn];exact hr.eH⟩
 | .tZ l0 n0,v,ps,h,hp,x,hx=>by
   cases v <;> simp only [kV,fH,Bool.and_false] at h <;> first | (cases h;done) | skip
   .split at h
    case h_2=>cases h
    rename_i l s o n c _ l' s' o' n' c' cs AJ
    split at h
    case h_2=>cases h
    rename_i hb
    have hb:=zzN hb
    subst hb
    cases h
    have e1:=gA (iM hp)
    have e2:=gA (iM (fF hp))
    have e3:=gA (iM (fF (fF hp)))
    obtain ⟨e4,e5⟩:=(fF (fF (fF hp))) _ zzC
    obtain ⟨B,hB,mK⟩:=oP _ _ _ AJ
    subst e1 e2 e3 e4
    obtain ⟨us,_,_,pU,_⟩:=Jl (hT.ok l B hB) mK
    have hσ:(seen vw V).σ l0=some (.tuple (x::us).toArray):=by
     have hd:den V (.aJ l s' o n c)=some x:=by simpa only [den] using hx
     simp [seen,AJ,hd,pU]
    simp only [den,zzM] at hx
    obtain ⟨p,_,rfl⟩:=hx
    simp only [den,hσ,zza,Ao,List.head?_cons]
    unfold iP
    exact if_pos ⟨rfl,e5,.inr rfl⟩
   .split at h
    case h_2=>cases h
    rename_i l o n lo _ _ l' o' n' TW cs pre k ds ty AJ hB
    split at h
    case h_2=>cases h
    rename_i iE
    simp only [zzn] at iE
    obtain ⟨k1,k2,k3,k4,k5⟩:=iE
    have k1:=zzN k1
    have k2:=zzN k2
    have k3:=zzN k3
    have k4:=zzN k4
    have k5:=zzN k5
    cases h
    obtain ⟨e1,e2,e3⟩:=hp _ zzC
    obtain ⟨GK,k',ds',ty',UO,e4⟩:=oP _ _ _ AJ
    subst k1
    rw [hB] at UO
    cases UO
    subst k2 k3 k4 k5 e1 e2 e4
    obtain ⟨us,pU,b,cap,cur,r1,r2,_,_,_,⟨m,r6,r7⟩,_⟩:=hT.ok l _ hB
    have pU:aG V (pre++Gf k 0 ds)=some us:=pU
    have UC:=bC pU
    have VL:(Gf k 0 ds).length=ds.length:=Fv k 0 ds
    have hσ:(seen vw V).σ l0=some (.tuple (x::us).toArray):=by
     simp [seen,AJ,hx,pU]
    simp only [den,r1,r2,oD,zza,zzm,zzI] at hx
    subst hx
    simp only [den,hσ,zza,Ao,List.head?_cons]
    unfold iP
    rw [List.length_append,VL] at UC
    exact if_pos ⟨rfl,by simp only [zzt];omega,.inr rfl⟩
   .split at h
    .rename_i l' hl
     split at h
     .rename_i hb
      have hb:=zzN hb
      subst hb
      cases h
      have e:=gA hp
      subst e
      simp only [den] at hx |-
      rw [(kE hl).2,hx]
     .cases h
    .cases h
 | .xZ ..,v,ps,h,hp,x,hx=>by cases v <;> simp [kV,fH] at h
 | .EP ..,v,ps,h,hp,x,hx=>by cases v <;> simp [kV,fH] at h
 | .rG t' v',v,ps,h,hp,x,hx=>by
   cases v <;> simp only [kV,fH,Bool.and_false] at h <;> first | (cases h;done) | skip
   split at h
   .rename_i hb
    have hb:=zzN hb
    subst hb
    simp only [den,zzM] at hx |-
    obtain ⟨y,hy,rfl⟩:=hx
    exact ⟨y,Zj oP hT h hp y hy,rfl⟩
   .cases h
 | .agg us,v,ps,h,hp,x,hx=>by
   have pure:(fH v&&fH (.agg us))=true->gN v (.agg us)=some ps->den (seen vw V) (.agg us)=some x:=by
    intro Gj hr
    simp only [zzn] at Gj
    rw [nM (V:=seen vw V) (V':=V) Gj.2,kF hr hp,hx]
   cases v with
   | agg vs=>
     simp only [kV] at h
     simp only [den,zzM] at hx |-
     obtain ⟨y,hy,rfl⟩:=hx
     rcases wI h hp with e | e
     .exact ⟨y,(e V (seen vw V)).trans hy,rfl⟩
     .exact ⟨y,qG oP hT e hp y hy,rfl⟩
   | _=>
     simp only [kV] at h
     split at h
     .rename_i Gj;exact pure Gj h
     .cases h
 | .eP us,v,ps,h,hp,x,hx=>by
   have pure:(fH v&&fH (.eP us))=true->gN v (.eP us)=some ps->den (seen vw V) (.eP us)=some x:=by
    intro Gj hr
    simp only [zzn] at Gj
    rw [nM (V:=seen vw V) (V':=V) Gj.2,kF hr hp,hx]
   cases v with
   | eP vs=>
     simp only [kV] at h
     simp only [den,zzM] at hx |-
     obtain ⟨y,hy,rfl⟩:=hx
     exact ⟨y,qG oP hT h hp y hy,rfl⟩
   | _=>
     simp only [kV] at h
     split at h
     .rename_i Gj;exact pure Gj h
     .cases h
 | .fn g us vs,v,ps,h,hp,x,hx=>by
   cases v with
   | fn f xs ys=>
     cases f with
     | func f=>
       cases g with
       | func g=>
         simp only [kV] at h
         split at h
         .rename_i hf
          have hf:=zzN hf
          subst hf
          split at h
          .rename_i a b ha hb
           cases h
           simp only [den,zzB,zzM] at hx |-
           obtain ⟨y,hy,z,hz,rfl⟩:=hx
           exact ⟨y,qG oP hT ha (iM hp) y hy,z,qG oP hT hb (fF hp) z hz,rfl⟩
          .cases h
         .cases h
       | _=>simp [kV,fH] at h
     | _=>simp [kV,fH] at h
   | _=>cases g <;> simp [kV,fH] at h
 | .int s k n,v,ps,h,hp,x,hx=>by
   have h2:(match fH v&&fH (.int s k n) with
    | true=>gN v (.int s k n)
    | false=>none)=some ps:=by cases v <;> simpa only [kV] using h
   split at h2
   .rename_i Gj
    simp only [zzn] at Gj
    rw [nM (V:=seen vw V) (V':=V) Gj.2,kF h2 hp,hx]
   .cases h2
 | .bool s b,v,ps,h,hp,x,hx=>by
   have h2:(match fH v&&fH (.bool s b) with
    | true=>gN v (.bool s b)
    | false=>none)=some ps:=by cases v <;> simpa only [kV] using h
   split at h2
   .rename_i Gj
    simp only [zzn] at Gj
    rw [nM (V:=seen vw V) (V':=V) Gj.2,kF h2 hp,hx]
   .cases h2
 | .raw y,v,ps,h,hp,x,hx=>by
   have h2:(match fH v&&fH (.raw y) with
    | true=>gN v (.raw y)
    | false=>none)=some ps:=by cases v <;> simpa only [kV] using h
   split at h2
   .rename_i Gj
    simp only [zzn] at Gj
    rw [nM (V:=seen vw V) (V':=V) Gj.2,kF h2 hp,hx]
   .cases h2
 | .ai k ys,v,ps,h,hp,x,hx=>by
   have h2:(match fH v&&fH (.ai k ys) with
    | true=>gN v (.ai k ys)
    | false=>none)=some ps:=by cases v <;> simpa only [kV] using h
   split at h2
   .rename_i Gj
    simp only [zzn] at Gj
    rw [nM (V:=seen vw V) (V':=V) Gj.2,kF h2 hp,hx]
   .cases h2
 | .jQ ..,v,ps,h,hp,x,hx=>by cases v <;> simp [kV,fH] at h
 | .Wn ..,v,ps,h,hp,x,hx=>by cases v <;> simp [kV,fH] at h
 | .nH ..,v,ps,h,hp,x,hx=>by cases v <;> simp [kV,fH] at h
theorem qG {vw:Vw} {T0:List (Nat × SB)} (oP:Il T vw) (hT:aC w0 M V T w):∀ {us vs:List SV} {ps:List Prop},uF vw T0 T vs us=some ps->(∀ q∈ps,q)->∀ xs,aG V vs=some xs->aG (seen vw V) us=some xs
 | [],vs,ps,h,hp,xs,hx=>by
   cases vs with
   | nil=>exact hx
   | cons=>simp [uF] at h
 | u::t,vs,ps,h,hp,xs,hx=>by
   cases vs with
   | nil=>simp [uF] at h
   | cons v r=>
     simp only [uF] at h
     split at h
     .rename_i a b ha hb
      cases h
      simp only [aG,zzB,zzM] at hx |-
      obtain ⟨y,hy,ys,rK,rfl⟩:=hx
      exact ⟨y,Zj oP hT ha (iM hp) y hy,ys,qG oP hT hb (fF hp) ys rK,rfl⟩
     .cases h
end
def dP (vw:Vw) (T0:List (Nat × SB)) (T:bA):SB->SB->Option (List Prop)
 | _,.gone=>some []
 | .own cs t,.own ds t'=>match Nat.beq t t' with
   | true=>Dc cs ds (uF vw T0 T cs ds)
   | false=>none
 | .own cs t,.ints k xs t'=>match dA k cs with
   | some ns=>some [ns=xs/\t=t']
   | none=>none
 | .ints k xs t,.ints k' ys t'=>match pD k k' with
   | true=>some [xs=ys/\t=t']
   | false=>none
 | .ints k xs t,.own ds t'=>match dA k ds with
   | some ns=>some [xs=ns/\t=t']
   | none=>none
 | .own cs _,.fS ds=>Dc cs ds (uF vw T0 T cs ds)
 | .ints k xs _,.fS ds=>(dA k ds).map fun ns=>[xs=ns]
 | .own cs _,.nZ k xs=>(dA k cs).map fun ns=>[ns=xs]
 | .ints k xs _,.nZ k' ys=>match pD k k' with
   | true=>some [xs=ys]
   | false=>none
 | .row sz cs t,.row FD ds t'=>match Nat.beq sz FD&&Nat.beq t t' with
   | true=>Dc cs ds (uF vw T0 T cs ds)
   | false=>none
 | .fS cs,.fS ds=>Dc cs ds (uF vw T0 T cs ds)
 | .fS cs,.nZ k xs=>(dA k cs).map fun ns=>[ns=xs]
 | .nZ k xs,.nZ k' ys=>match pD k k' with
   | true=>some [xs=ys]
   | false=>none
 | .fX sz n t,.fX FD n' t'=>match Nat.beq sz FD&&Nat.beq t t' with
   | true=>some (Ge false false n n')
   | false=>none
 | .cS k xs t,.cS k' ys t'=>match Nat.beq t t'&&pD k k' with
   | true=>some [xs=ys]
   | false=>none
 | .eQ xs t,.eQ ys t'=>match Nat.beq t t' with
   | true=>some [xs=ys]
   | false=>none
 | .eK vs t,.eK us t'=>match Nat.beq t t' with
   | true=>some [vs=us]
   | false=>none
 | .mI ds,.mI es=>some [ds=es]
 | .fM ds _,.mI es=>some [ds=es]
 | .own cs t,.eK us t'=>match Nat.beq t t' with
   | true=>some [∀ V:aZ,aG V cs=some us]
   | false=>none
 | _,_=>none
theorem PJ {vw:Vw} {T0:List (Nat × SB)} (oP:Il T vw) (hT:aC w0 M V T w) {l l0:Nat} {B C:SB} {ps:List Prop} (hl:vw l0=some (.lab l 0)) (hB:T l=some B) (h:dP vw T0 T B C=some ps) (hp:∀ q∈ps,q) :
 okB (seen vw V) w l0 C/\(∀ n,C.aN (seen vw V) l0=some n->B.aN V l=some n)/\(C.owned=true->B.owned=true):=by
 have eβ:(seen vw V).β l0=V.β l:=by rw [(kE hl).1];simp
 have eσ:(seen vw V).σ l0=V.σ l:=(kE hl).2
 obtain ⟨cs,hc,h2⟩:=hT.ok l B hB
 have WL:∀ {xs ds:List SV},Dc xs ds (uF vw T0 T xs ds)=some ps->aG V xs=some cs->aG (seen vw V) ds=some cs:=by
  intro xs ds h hx
  rcases wI h hp with e | e
  .exact (e V (seen vw V)).trans hx
  .exact qG oP hT e hp _ hx
 cases C with
 | gone=>exact ⟨⟨[],rfl,trivial⟩,(fun n hn=>by cases hn),fun h=>by cases h⟩
 | mI ds=>exact ⟨⟨[],rfl,trivial⟩,(fun n hn=>by cases hn),fun h=>by cases h⟩
 | fM ds ty=>cases B <;> simp [dP] at h
 | jB pre k ds ty=>cases B <;> simp [dP] at h
 | nU d=>cases B <;> simp [dP] at h
 | gU ds z=>cases B <;> simp [dP] at h
 | own ds t'=>
   cases B with
   | own es t=>
     simp only [dP] at h
     split at h
     case h_2=>cases h
     rename_i ht
     have ht:=zzN ht
     subst ht
     obtain ⟨b,hb,hh⟩:=h2
     exact ⟨⟨cs,WL h hc,b,eβ.trans hb,hh⟩,fun n hn=>by simpa [SB.aN,eβ] using hn,fun _=>rfl⟩
   | ints k xs t=>
     simp only [dP] at h
     split at h
     case h_2=>cases h
     rename_i hk
     cases h
     obtain ⟨e,ht⟩:=hp _ zzC
     subst e ht
     cases hc
     obtain ⟨b,hb,hh⟩:=h2
     exact ⟨⟨_,cX hk,b,eβ.trans hb,hh⟩,fun n hn=>by simpa [SB.aN,eβ] using hn,fun _=>rfl⟩
   | _=>simp [dP] at h
 | ints k xs t'=>
   cases B with
   | own es t=>
     simp only [dP] at h
     split at h
     case h_2=>cases h
     rename_i hk
     cases h
     obtain ⟨e,ht⟩:=hp _ zzC
     subst e ht
     have e2:some cs=some _:=hc.symm.trans (cX hk)
     cases e2
     obtain ⟨b,hb,hh⟩:=h2
     exact ⟨⟨_,rfl,b,eβ.trans hb,hh⟩,fun n hn=>by simpa [SB.aN,eβ] using hn,fun _=>rfl⟩
   | ints k2 ys t=>
     simp only [dP] at h
     split at h
     case h_2=>cases h
     rename_i ht
     cases h
     obtain ⟨e,h3⟩:=hp _ zzC
     have h4:_=_:=zzD ht
     subst e h3 h4
     obtain ⟨b,hb,hh⟩:=h2
     exact ⟨⟨cs,hc,b,eβ.trans hb,hh⟩,fun n hn=>by simpa [SB.aN,eβ] using hn,fun _=>rfl⟩
   | _=>simp [dP] at h
 | fS ds=>
   cases B with
   | own es t=>
     simp only [dP] at h
     obtain ⟨b,hb,hh⟩:=h2
     exact ⟨⟨cs,WL h hc,b,0,eβ.trans hb,.of hh,fun j u hj=>by rw [cell_of_row w _ (0+j) _ _ _ hh];simpa using hj⟩,fun n hn=>by simpa [SB.aN,eβ] using hn,fun h=>by cases h⟩
   | ints k2 ys t=>
     simp only [dP,zzM] at h
     obtain ⟨ns,hk,rfl⟩:=h
     have e:=hp _ zzC
     subst e
     cases hc
     obtain ⟨b,hb,hh⟩:=h2
     exact ⟨⟨_,cX hk,b,0,eβ.trans hb,.of hh,fun j u hj=>by rw [cell_of_row w _ (0+j) _ _ _ hh];simpa using hj⟩,fun n hn=>by simpa [SB.aN,eβ] using hn,fun h=>by cases h⟩
   | fS es=>
     simp only [dP] at h
     obtain ⟨b,o,hb,hh⟩:=h2
     exact ⟨⟨cs,WL h hc,b,o,eβ.trans hb,hh⟩,fun n hn=>by simpa [SB.aN,eβ] using hn,fun h=>by cases h⟩
   | _=>simp [dP] at h
 | nZ k xs=>
   cases B with
   | own es t=>
     simp only [dP,zzM] at h
     obtain ⟨ns,hk,rfl⟩:=h
     have e:=hp _ zzC
     subst e
     have e2:some cs=some _:=hc.symm.trans (cX hk)
     cases e2
     obtain ⟨b,hb,hh⟩:=h2
     exact ⟨⟨_,rfl,b,0,eβ.trans hb,.of hh,fun j u hj=>by rw [cell_of_row w _ (0+j) _ _ _ hh];simpa using hj⟩,fun n hn=>by simpa [SB.aN,eβ] using hn,fun h=>by cases h⟩
   | ints k2 ys t=>
     simp only [dP] at h
     split at h
     case h_2=>cases h
     rename_i ht
     cases h
     have e:=hp _ zzC
     have h4:_=_:=zzD ht
     subst e h4
     cases hc
     obtain ⟨b,hb,hh⟩:=h2
     exact ⟨⟨_,rfl,b,0,eβ.trans hb,.of hh,fun j u hj=>by rw [cell_of_row w _ (0+j) _ _ _ hh];simpa using hj⟩,fun n hn=>by simpa [SB.aN,eβ] using hn,fun h=>by cases h⟩
   | fS es=>
     simp only [dP,zzM] at h
     obtain ⟨ns,hk,rfl⟩:=h
     have e:=hp _ zzC
     subst e
     have e2:some cs=some _:=hc.symm.trans (cX hk)
     cases e2
     obtain ⟨b,o,hb,hh⟩:=h2
     exact ⟨⟨_,rfl,b,o,eβ.trans hb,hh⟩,fun n hn=>by simpa [SB.aN,eβ] using hn,fun h=>by cases h⟩
   | nZ k2 ys=>
     simp only [dP] at h
     split at h
     case h_2=>cases h
     rename_i ht
     cases h
     have e:=hp _ zzC
     have h4:_=_:=zzD ht
     subst e h4
     obtain ⟨b,o,hb,hh⟩:=h2
     exact ⟨⟨cs,hc,b,o,eβ.trans hb,hh⟩,fun n hn=>by simpa [SB.aN,eβ] using hn,fun h=>by cases h⟩
   | _=>simp [dP] at h
 | fX z m t'=>
   cases B with
   | fX z2 m2 t=>
     simp only [dP] at h
     split at h
     case h_2=>cases h
     rename_i ht
     simp only [zzn] at ht
     cases h
     have h3:=zzN ht.1
     have h4:=zzN ht.2
     have e:=gA hp
     subst h3 h4 e
     obtain ⟨v,us,hv,hh⟩:=h2
     exact ⟨⟨cs,hc,v,us,eσ.trans hv,hh⟩,fun n hn=>by simpa [SB.aN,eσ] using hn,fun _=>rfl⟩
   | _=>simp [dP] at h
 | cS k xs t'=>
   cases B with
   | cS k2 ys t=>
     simp only [dP] at h
     split at h
     case h_2=>cases h
     rename_i ht
     simp only [zzn] at ht
     cases h
     have e:=hp _ zzC
     have h3:=zzN ht.1
     have h4:_=_:=zzD ht.2
     subst e h3 h4
     obtain ⟨v,hv,hh⟩:=h2
     exact ⟨⟨cs,hc,v,eσ.trans hv,hh⟩,fun n hn=>by simpa [SB.aN,eσ] using hn,fun _=>rfl⟩
   | _=>simp [dP] at h
 | eQ xs t'=>
   cases B with
   | eQ ys t=>
     simp only [dP] at h
     split at h
     case h_2=>cases h
     rename_i ht
     cases h
     have e:=hp _ zzC
     have h3:=zzN ht
     subst e h3
     obtain ⟨v,hv,hh⟩:=h2
     exact ⟨⟨cs,hc,v,eσ.trans hv,hh⟩,fun n hn=>by simpa [SB.aN,eσ] using hn,fun _=>rfl⟩
   | _=>simp [dP] at h
 | eK us t'=>
   cases B with
   | own es t=>
     simp only [dP] at h
     split at h
     case h_2=>cases h
     rename_i ht
     cases h
     have e:=hp _ zzC
     have h3:=zzN ht
     subst h3
     have:some cs=some us:=hc.symm.trans (e V)
     cases this
     obtain ⟨b,hb,hh⟩:=h2
     exact ⟨⟨_,rfl,b,eβ.trans hb,hh⟩,fun n hn=>by simpa [SB.aN,eβ] using hn,fun _=>rfl⟩
   | eK vs t=>
     simp only [dP] at h
     split at h
     case h_2=>cases h
     rename_i ht
     cases h
     have e:=hp _ zzC
     have h3:=zzN ht
     subst e h3
     obtain ⟨b,hb,hh⟩:=h2
     exact ⟨⟨cs,hc,b,eβ.trans hb,hh⟩,fun n hn=>by simpa [SB.aN,eβ] using hn,fun _=>rfl⟩
   | _=>simp [dP] at h
 | row z ds t'=>
   cases B with
   | row z2 es t=>
     simp only [dP] at h
     split at h
     case h_2=>cases h
     rename_i ht
     simp only [zzn] at ht
     have h3:=zzN ht.1
     have h4:=zzN ht.2
     subst h3 h4
     obtain ⟨b,cap,cur,hb,hσ,hh⟩:=h2
     exact ⟨⟨cs,WL h hc,b,cap,cur,eβ.trans hb,eσ.trans hσ,hh⟩,fun n hn=>by simpa [SB.aN,eβ] using hn,fun _=>rfl⟩
   | _=>simp [dP] at h
 | gL k xs=>cases B <;> simp [dP] at h
 | rI xs=>cases B <;> simp [dP] at h
def MG:SB->Bool
 | .fM _ _=>true
 | _=>false
def okO (vw:Vw) (T0:List (Nat × SB)) (eT:List Nat):Bool:=T0.all fun p=>match p.2.owned with
 | false=>true
 | true=>match vw p.1 with
   | some (.lab l _) => !eT.elem l
   | _=>true
theorem aMw {vw:Vw} {T0:List (Nat × SB)} {eT:List Nat} (h:okO vw T0 eT=true) {l0 l:Nat} {B0:SB} (h0:look l0 T0=some B0) (ho:B0.owned=true) (hl:vw l0=some (.lab l 0)):l ∉ eT:=by
 have:=List.all_eq_true.1 h _ (gC h0)
 simp only [ho,hl] at this
 simpa using this
theorem Ld (hT:aC w0 M V T w):∀ {cs:List SV} {ob:List Prop} {ps:List (List Int)} {us:List Value},rdP T cs=some (ob,ps)->(∀ q∈ob,q)->aG V cs=some us->∀ (i:Nat) (u:Value),us[i]?=some u->∀ n,eV u=some n->(∃ l1 B1,l1∈cs.filterMap vQ/\T l1=some B1/\B1.aN V l1=some n)\/(n<w0.heap.size/\¬ M n)
 | [],ob,ps,us,h,_,hd=>by
   simp only [aG,zzI] at hd
   subst hd
   intro i u hu
   simp at hu
 | v::r,ob,ps,us,h,ho,hd=>by
   simp only [rdP] at h
   split at h
   case h_2=>cases h
   rename_i o1 d1 o2 p2 h1 h2
   cases h
   simp only [aG,zzM,zzB] at hd
   obtain ⟨x,hx,ys,hy,rfl⟩:=hd
   have g1:=Ld hT h2 (fun q hq=>ho q (List.mem_append_right _ hq)) hy
   have g3:=(xC hT hx h1 (fun q hq=>ho q (List.mem_append_left _ hq))).2
   intro i u hu n hn
   cases i with
   | zero=>
     simp only [List.getElem?_cons_zero,zzI] at hu
     subst hu
     rcases g3 n hn with ⟨l,B,e1,e2,e3⟩ | e
     .exact .inl ⟨l,B,List.mem_filterMap.2 ⟨v,zzC,e1⟩,e2,e3⟩
     .exact .inr e
   | succ i=>
     rcases g1 i u (by simpa using hu) n hn with ⟨l,B,e1,e2,e3⟩ | e
     .obtain ⟨v',Ra,e4⟩:=List.mem_filterMap.1 e1
      exact .inl ⟨l,B,List.mem_filterMap.2 ⟨v',zzO _ Ra,e4⟩,e2,e3⟩
     .exact .inr e
def Gv (vw:Vw) (T0:List (Nat × SB)) (T:bA) (l0:Nat) (B0:SB):Option (List Prop):=match B0 with
 | .mI ds=>match vw l0 with
   | some (.lab l 0)=>match T l with
     | some B=>match !MG B||okO vw T0 [l] with
       | true=>dP vw T0 T B (.mI ds)
       | false=>none
     | none=>none
   | some (.Mq (.cQ l 0 n 0) _)=>match T l with
     | some (.jB pre k es _)=>match rdP T pre,T k,okO vw T0 (l::pre.filterMap vQ) with
       | some (ob,ps),some B,true=>match vP B with
         | some UQ=>some ((n=pre.length+es.length/\UQ=es/\ps++es=ds)::ob)
         | none=>none
       | _,_,_=>none
     | _=>none
   | some (.Mq (.aJ l true 0 n c) cs)=>match rdP T cs,Nat.beq cs.length n&&Nat.ble n c,okO vw T0 (l::cs.filterMap vQ) with
     | some (ob,ps),true,true=>some ((ps=ds)::ob)
     | _,_,_=>none
   | _=>none
 | .gL k ys=>match vw l0 with
   | some (.val u)=>match cZ T k u with
     | some (ob,xs)=>some ((xs=ys)::ob)
     | none=>none
   | _=>none
 | .rI ys=>match vw l0 with
   | some (.val u)=>match Ht T u with
     | some xs=>some [xs=ys]
     | none=>none
   | _=>none
 | B0=>match vw l0 with
   | some (.lab l 0)=>match T l with
     | some B=>dP vw T0 T B B0
     | none=>none
   | _=>none
def oU (vw:Vw) (l0:Nat):Option Nat:=match vw l0 with
 | some (.lab l _)=>some l
 | some (.val u)=>vQ u
 | some (.Mq ..)=>none
 | none=>none
theorem aEj {vw:Vw} {T0:List (Nat × SB)} (oP:Il T vw) (hT:aC w0 M V T w) {l0:Nat} {C:SB} {ps:List Prop} (h:Gv vw T0 T l0 C=some ps) (hp:∀ q∈ps,q) (hv:∀ u,vw l0=some (.val u)->∃ x,den V u=some x) :
 okB (seen vw V) w l0 C/\(∀ n,C.aN (seen vw V) l0=some n->(∃ l B,oU vw l0=some l/\T l=some B/\B.aN V l=some n)\/(n<w0.heap.size/\¬ M n))/\(C.owned=true->∃ l B,vw l0=some (.lab l 0)/\T l=some B/\B.owned=true/\∀ n,C.aN (seen vw V) l0=some n->B.aN V l=some n):=by
 have rest:(match vw l0 with
  | some (.lab l 0)=>match T l with
    | some B=>dP vw T0 T B C
    | none=>none
  | _=>none)=some ps->okB (seen vw V) w l0 C/\(∀ n,C.aN (seen vw V) l0=some n->(∃ l B,oU vw l0=some l/\T l=some B/\B.aN V l=some n)\/(n<w0.heap.size/\¬ M n))/\(C.owned=true->∃ l B,vw l0=some (.lab l 0)/\T l=some B/\B.owned=true/\∀ n,C.aN (seen vw V) l0=some n->B.aN V l=some n):=by
  intro h
  split at h
  case h_2=>cases h
  rename_i l hl
  split at h
  case h_2=>cases h
  rename_i B hB
  obtain ⟨r1,r2,r3⟩:=PJ oP hT hl hB h hp
  exact ⟨r1,fun n hn=>.inl ⟨l,B,by simp [oU,hl],hB,r2 n hn⟩,fun ho=>⟨l,B,hl,hB,r3 ho,r2⟩⟩
 cases C with
 | gL k ys=>
   simp only [Gv] at h
   split at h
   case h_2=>cases h
   rename_i u hu
   split at h
   case h_2=>cases h
   rename_i ob xs hs
   cases h
   have e:xs=ys:=hp _ zzC
   subst e
   obtain ⟨x,hx⟩:=hv u hu
   obtain ⟨h1,h2⟩:=xC hT hx hs (fun q hq=>hp q (zzO _ hq))
   have hσ:(seen vw V).σ l0=some x:=(xD hu).trans hx
   refine ⟨⟨_,rfl,x,hσ,h1⟩,fun n hn=>?_,fun h=>by cases h⟩
   simp only [SB.aN,hσ,zza] at hn
   rcases h2 n hn with ⟨l,B,g1,g2,g3⟩ | g
   .exact .inl ⟨l,B,by simp [oU,hu,g1],g2,g3⟩
   .exact .inr g
 | rI ys=>
   simp only [Gv] at h
   split at h
   case h_2=>cases h
   rename_i u hu
   split at h
   case h_2=>cases h
   rename_i xs hs
   cases h
   have e:xs=ys:=hp _ zzC
   subst e
   obtain ⟨x,hx⟩:=hv u hu
   obtain ⟨h1,h2⟩:=Ep hT hx hs
   have hσ:(seen vw V).σ l0=some x:=(xD hu).trans hx
   refine ⟨⟨_,rfl,x,hσ,h1⟩,fun n hn=>?_,fun h=>by cases h⟩
   simp only [SB.aN,hσ,zza] at hn
   obtain ⟨l,B,g1,g2,g3⟩:=h2 n hn
   exact .inl ⟨l,B,by simp [oU,hu,g1],g2,g3⟩
 | eQ=>exact rest h
 | mI ds=>exact ⟨⟨[],rfl,trivial⟩,(fun n hn=>by cases hn),fun h=>by cases h⟩
 | nU=>exact rest h
 | gU=>exact rest h
 | fM=>exact rest h
 | jB=>exact rest h
 | own=>exact rest h
 | ints=>exact rest h
 | fS=>exact rest h
 | nZ=>exact rest h
 | cS=>exact rest h
 | fX=>exact rest h
 | row=>exact rest h
 | eK=>exact rest h
 | gone=>exact rest h
theorem Je {l l0:Nat} {ds:List (List Int)} {V':aZ} {M':Nat->Prop} (hT:aC w0 M V T w) (hσ:V'.σ l0=V.σ l) (hk:∀ n,M' n->w0.heap.size<=n\/M n) (h:T l=some (.mI ds)\/(∃ ty,T l=some (.fM ds ty))/\∀ B n,T l=some B->B.aN V l=some n->¬ M' n):lG w M' V' l0 (.mI ds):=by
 rcases h with hB | ⟨⟨ty,hB⟩,hM⟩
 .obtain ⟨v,us,h1,h2,h3,h4⟩:=hT.tV l _ hB
  exact ⟨v,us,hσ.trans h1,h2.gO hT.frame hk,h3,fun i u d hu hd=>(h4 i u d hu hd).gO hT.frame hk⟩
 .obtain ⟨v,us,h1,h3,h4⟩:=hT.tV l _ hB
  obtain ⟨cs,_,v',us',Gk,bN⟩:=hT.ok l _ hB
  rw [h1] at Gk
  have e:=congrArg (fun o:Option Value=>match o with | some (.tuple xs)=>xs.toList | _=>[]) Gk
  simp only at e
  cases e
  have hL:=Fq bN
  exact ⟨v,us,hσ.trans h1,⟨hL.1,fun n hn=>⟨(hL.2 n hn).1,hM _ n hB (by simp [SB.aN,h1,uI,eC hn])⟩⟩,h3,fun i u d hu hd=>(h4 i u d hu hd).gO hT.frame hk⟩
theorem PI {vw:Vw} {T0:List (Nat × SB)} (oP:Il T vw) (hT:aC w0 M V T w) {l0:Nat} {C:SB} {ps:List Prop} (h:Gv vw T0 T l0 C=some ps) (hp:∀ q∈ps,q) {M':Nat->Prop}
 (hM:∀ n,M' n->∃ l0 B0 l B,look l0 T0=some B0/\B0.owned=true/\vw l0=some (.lab l 0)/\T l=some B/\B.owned=true/\B.aN V l=some n):lG w M' (seen vw V) l0 C:=by
 have hk:∀ n,M' n->w0.heap.size<=n\/M n:=fun n hn=>by
  obtain ⟨_,_,l1,B1,_,_,_,a1,a2,a3⟩:=hM n hn
  exact hT.perm l1 B1 n a1 a2 a3
 have HF:∀ {eT:List Nat},okO vw T0 eT=true->∀ l1 B1 n,l1∈eT->T l1=some B1->B1.aN V l1=some n->¬ M' n:=fun Gc l1 B1 n Rd h1 h2 hn=>by
  obtain ⟨_,_,l,B,a1,a2,a3,a4,a5,a6⟩:=hM n hn
  have dG:l≠l1:=fun e=>by subst e;exact aMw Gc a1 a2 a3 Rd
  exact hT.jX l B l1 B1 n dG a4 h1 a5 a6 h2
 have far:∀ n,n<w0.heap.size/\¬ M n->¬ M' n:=fun n hn h=>by
  rcases hk n h with h1 | h1
  .omega
  .exact hn.2 h1
 cases C with
 | mI ds=>
   simp only [Gv] at h
   split at h
   case h_4=>cases h
   .rename_i l hl
    split at h
    case h_2=>cases h
    rename_i B hB
    split at h
    case h_2=>cases h
    rename_i Gc
    have hσ:(seen vw V).σ l0=V.σ l:=(kE hl).2
    cases B with
    | mI es=>
      simp only [dP,zzI] at h
      subst h
      have e:=hp _ zzC
      subst e
      exact Je hT hσ hk (.inl hB)
    | fM es ty=>
      simp only [dP,zzI] at h
      subst h
      have e:=hp _ zzC
      subst e
      have Gc:okO vw T0 [l]=true:=by simpa [MG] using Gc
      exact Je hT hσ hk (.inr ⟨⟨ty,hB⟩,fun B n h1 h2=>HF Gc l B n (by simp) h1 h2⟩)
    | _=>simp [dP] at h
   .rename_i l n cs hl
    split at h
    case h_2=>cases h
    rename_i pre k es ty hB
    split at h
    case h_2=>cases h
    rename_i ob ps B hrd hBk Gc
    split at h
    case h_2=>cases h
    rename_i UQ hd
    cases h
    obtain ⟨e2,e3,e4⟩:=hp _ zzC
    obtain ⟨GK,k',ds',ty',UO,e1⟩:=oP _ _ _ hl
    rw [hB] at UO
    cases UO
    subst e1 e3 e4
    obtain ⟨us,pU,b,cap,cur,r1,r2,hh,_,_,⟨m,r6,r7⟩,cT⟩:=hT.ok l _ hB
    have pU:aG V (pre++Gf k 0 UQ)=some us:=pU
    obtain ⟨xs,ys,hx,hy,rfl⟩:=qO pU
    obtain ⟨g1,g2⟩:=Tj hT hrd (fun q hq=>hp q (zzO _ hq)) hx
    obtain ⟨lv,ws,hσ,tQ,Cj,_⟩:=Bs hT hBk hd
    have hws:=Fh (i:=0) hσ tQ (fun j u d hu hd=>(Cj j u d hu hd).1.eH) (List.drop_zero)
    rw [hws] at hy
    cases hy
    have Ho:=bC hx
    have hdn:den V (.cQ l 0 n 0)=some (.slice (some ⟨b,0,none⟩) n cap):=by simp [den,r1,r2,oD]
    have hn:n=(xs++ys).length:=by rw [e2,List.length_append];omega
    refine ⟨.slice (some ⟨b,0,none⟩) n cap,xs++ys,by simp [seen,hl,hdn,pU],⟨.inr ⟨b,0,cap,by rw [hn],(Array.getElem?_eq_some_iff.1 hh).1,by omega,fun j v hj=>?_⟩,fun q hq=>?_⟩,by simp [g1,tQ],fun i u d hu hd=>?_⟩
    .rw [cell_of_row w b (0+j) _ _ _ hh]
     rw [<- cT,List.getElem?_take] at hj
     split at hj
     .simpa using hj
     .cases hj
    .have:q=b:=by
      unfold eV at hq
      split at hq
      .cases hq
      .simpa [Value.ownBlock] using hq.symm
     subst this
     exact ⟨(Array.getElem?_eq_some_iff.1 hh).1,HF Gc l _ _ zzC hB (by simp [SB.aN,r1])⟩
    .by_cases hi:i<xs.length
     .rw [List.getElem?_append_left hi] at hu
      rw [List.getElem?_append_left (by omega)] at hd
      refine ⟨g2 i u d hu hd,fun q hq=>⟨((g2 i u d hu hd).frozen.2 q hq).1,?_⟩⟩
      rcases Ld hT hrd (fun q hq=>hp q (zzO _ hq)) hx i u hu q hq with ⟨l1,B1,e1,e2,e3⟩ | e
      .exact HF Gc l1 B1 q (zzO _ e1) e2 e3
      .exact far q e
     .rw [List.getElem?_append_right (by omega)] at hu
      rw [List.getElem?_append_right (by omega),<- g1] at hd
      exact (Cj _ u d hu hd).gO hT.frame hk
   .rename_i l n c cs hl
    split at h
    case h_2=>cases h
    rename_i ob ps hrd iE Gc
    cases h
    simp only [zzn] at iE
    have e2:=zzN iE.1
    have e3:=zzL iE.2
    have e4:=hp _ zzC
    obtain ⟨B,hB,mK⟩:=oP _ _ _ hl
    subst e4
    obtain ⟨us,b,o,pU,hβ,cM,fI⟩:=Jl (hT.ok l B hB) mK
    obtain ⟨g1,g2⟩:=Tj hT hrd (fun q hq=>hp q (zzO _ hq)) pU
    have UC:us.length=n:=(bC pU).trans e2
    have hd:den V (.aJ l true 0 n c)=some (.slice (some ⟨b,o+0,none⟩) n c):=by simp [den,hβ]
    refine ⟨.slice (some ⟨b,o+0,none⟩) n c,us,by simp [seen,hl,hd,pU],⟨.inr ⟨b,o+0,c,by rw [UC],cM,by omega,fI⟩,fun m hm=>?_⟩,g1,fun i u d hu hd=>⟨(g2 i u d hu hd),fun m hm=>⟨((g2 i u d hu hd).frozen.2 m hm).1,?_⟩⟩⟩
    rotate_left
    .rcases Ld hT hrd (fun q hq=>hp q (zzO _ hq)) pU i u hu m hm with ⟨l1,B1,e1,e2,e3⟩ | e
     .exact HF Gc l1 B1 m (zzO _ e1) e2 e3
     .exact far m e
    have:m=b:=by
     unfold eV at hm
     split at hm
     .cases hm
     .simpa [Value.ownBlock] using hm.symm
    subst this
    refine ⟨cM,HF Gc l _ _ zzC hB ?_⟩
    cases B <;> simp only [yU] at mK <;> first | (cases mK;done) | simp [SB.aN,hβ]
 | fM ds ty=>
   simp only [Gv] at h
   split at h
   case h_2=>cases h
   split at h
   case h_2=>cases h
   rename_i B _
   cases B <;> simp [dP] at h
 | nU d=>
   simp only [Gv] at h
   split at h
   case h_2=>cases h
   split at h
   case h_2=>cases h
   rename_i B _
   cases B <;> simp [dP] at h
 | gU ds z=>
   simp only [Gv] at h
   split at h
   case h_2=>cases h
   split at h
   case h_2=>cases h
   rename_i B _
   cases B <;> simp [dP] at h
 | _=>trivial
def XP (vw:Vw) (T0:List (Nat × SB)) (T:bA):List (Nat × SB)->Option (List Prop)
 | []=>some []
 | (l0,B0)::r=>match Gv vw T0 T l0 B0,XP vw T0 T r with
   | some a,some b=>some (a++b)
   | _,_=>none
theorem Li {vw:Vw} {T0:List (Nat × SB)}:∀ {r:List (Nat × SB)} {ps:List Prop},XP vw T0 T r=some ps->(∀ q∈ps,q)->∀ l0 B0,look l0 r=some B0->∃ FG,Gv vw T0 T l0 B0=some FG/\∀ q∈FG,q
 | [],_,_,_,l0,B0,hl=>by cases hl
 | (k,C)::r,ps,h,hp,l0,B0,hl=>by
   simp only [XP] at h
   split at h
   case h_2=>cases h
   rename_i a b ha hb
   cases h
   by_cases e:k=l0
   .subst e;rw [aH] at hl;cases hl;exact ⟨a,ha,iM hp⟩
   .rw [aD e] at hl;exact Li hb (fF hp) l0 B0 hl
def aIo:Option Nat->Option Nat->Bool
 | some a,some b=>Nat.beq a b
 | _,_=>false
def aQg (vw:Vw) (T0:List (Nat × SB)):Bool:=T0.all fun p=>match p.2.owned with
 | false=>true
 | true=>T0.all fun q=>Nat.beq p.1 q.1 || !aIo (oU vw p.1) (oU vw q.1)
inductive Kj where
 | lab (l off:Nat)
 | arg (i:Nat)
 | sub (i j:Nat)
 | cell (l i:Nat)
 | Mq (i:Nat)
def Hs (vs:List SV) (T:bA):Kj->Option Src
 | .Mq i=>match vs[i]? with
   | some (.tZ l _)=>some (.lab l 0)
   | some (.cQ l o n lo)=>match T l with
     | some (.jB pre k ds _)=>some (.Mq (.cQ l o n lo) (pre++Gf k 0 ds))
     | _=>none
   | some (.aJ l s o n c)=>match T l with
     | some B=>(yU B).map (.Mq (.aJ l s o n c))
     | none=>none
   | _=>none
 | .cell l i=>match T l with
   | some (.own cs _)=>(cs[i]?).map .val
   | some (.fS cs)=>(cs[i]?).map .val
   | some (.row _ cs _)=>(cs[i]?).map .val
   | _=>none
 | .lab l off=>some (.lab l off)
 | .arg i=>(vs[i]?).map .val
 | .sub i j=>match vs[i]? with
   | some (.agg us)=>(us[j]?).map .val
   | _=>none
def Cs (vs:List SV) (T:bA):List (Nat × Kj)->Option (List (Nat × Src))
 | []=>some []
 | (l0,q)::r=>match Hs vs T q,Cs vs T r with
   | some s,some t=>some ((l0,s)::t)
   | _,_=>none
theorem Pe (hT:aC w0 M V T w) {vs:List SV} {xs:List Value} (hx:aG V vs=some xs):∀ {vl:List (Nat × Kj)} {sl:List (Nat × Src)},Cs vs T vl=some sl->∀ l0 u,look l0 sl=some (.val u)->∃ x,den V u=some x
 | [],sl,h,l0,u,hl=>by simp only [Cs,zzI] at h;subst h;cases hl
 | (k,q)::r,sl,h,l0,u,hl=>by
   simp only [Cs] at h
   split at h
   case h_2=>cases h
   rename_i s t hs ht
   cases h
   by_cases e:k=l0
   .subst e
    rw [aH] at hl
    cases hl
    cases q with
    | lab l off=>cases hs
    | Mq i=>
      simp only [Hs] at hs
      split at hs
      .cases hs
      .split at hs
       .cases hs
       .cases hs
      .split at hs
       .simp at hs
       .cases hs
      .cases hs
    | cell l i=>
      simp only [Hs] at hs
      split at hs
      .rename_i cs ty hB
       simp only [zzM] at hs
       obtain ⟨v,hv,e⟩:=hs
       cases e
       obtain ⟨ys,hy,_⟩:=hT.ok l _ hB
       obtain ⟨x,_,h3⟩:=dZ hy i u hv
       exact ⟨x,h3⟩
      .rename_i cs hB
       simp only [zzM] at hs
       obtain ⟨v,hv,e⟩:=hs
       cases e
       obtain ⟨ys,hy,_⟩:=hT.ok l _ hB
       obtain ⟨x,_,h3⟩:=dZ hy i u hv
       exact ⟨x,h3⟩
      .rename_i sz cs ty hB
       simp only [zzM] at hs
       obtain ⟨v,hv,e⟩:=hs
       cases e
       obtain ⟨ys,hy,_⟩:=hT.ok l _ hB
       obtain ⟨x,_,h3⟩:=dZ hy i u hv
       exact ⟨x,h3⟩
      .cases hs
    | arg i=>
      simp only [Hs,zzM] at hs
      obtain ⟨v,hv,e⟩:=hs
      cases e
      obtain ⟨x,_,h2⟩:=dZ hx i u hv
      exact ⟨x,h2⟩
    | sub i j=>
      simp only [Hs] at hs
      split at hs
      case h_2=>cases hs
      rename_i us hv
      simp only [zzM] at hs
      obtain ⟨v,hv2,e⟩:=hs
      cases e
      obtain ⟨x,_,h2⟩:=dZ hx i _ hv
      simp only [den,zzM] at h2
      obtain ⟨ys,hy,_⟩:=h2
      obtain ⟨x,_,h3⟩:=dZ hy j u hv2
      exact ⟨x,h3⟩
   .rw [aD e] at hl
    exact Pe hT hx ht l0 u hl
theorem Pd {vs:List SV} {T:bA}:∀ {vl:List (Nat × Kj)} {sl:List (Nat × Src)},Cs vs T vl=some sl->∀ l0 v cs,look l0 sl=some (.Mq v cs)->match v with
  | .aJ l _ _ _ _=>∃ B,T l=some B/\yU B=some cs
  | .cQ l _ _ _=>∃ pre k ds ty,T l=some (.jB pre k ds ty)/\cs=pre++Gf k 0 ds
  | _=>True
 | [],sl,h,l0,v,cs,hl=>by simp only [Cs,zzI] at h;subst h;cases hl
 | (k,q)::r,sl,h,l0,v,cs,hl=>by
   simp only [Cs] at h
   split at h
   case h_2=>cases h
   rename_i s t hs ht
   cases h
   by_cases e:k=l0
   .subst e
    rw [aH] at hl
    cases hl
    cases q <;> simp only [Hs] at hs
    .cases hs
    .simp at hs
    .split at hs
     .simp at hs
     .cases hs
    .split at hs <;> first | (cases hs;done) | (simp at hs;done)
    .split at hs
     .cases hs
     .split at hs
      .rename_i hB
       cases hs
       exact ⟨_,_,_,_,hB,rfl⟩
      .cases hs
     .split at hs
      .rename_i B hB
       simp only [zzM] at hs
       obtain ⟨cs',h1,h2⟩:=hs
       cases h2
       exact ⟨B,hB,h1⟩
      .cases hs
     .cases hs
   .rw [aD e] at hl
    exact Pd ht l0 v cs hl
structure Canon where
 eN:List SV
 T0:List (Nat × SB)
 vl:List (Nat × Kj)
 e0:bL
 conds:List Prop:=[]
def pW (gl:List (Nat × Nat)) (sl:List (Nat × Src)):Vw:=fun l0=>match look l0 sl with
 | some q=>some q
 | none=>match gl.any fun p=>Nat.beq p.2 l0 with
   | true=>some (.lab l0 0)
   | false=>none
def Zv (gl:List (Nat × Nat)) (F0:Nat) (c:Canon) (vw:Vw):Bool:=
 aQg vw c.T0&&(c.vl.all (fun p=>Nat.blt p.1 F0 && !gl.any fun q=>Nat.beq q.2 p.1)&&(gl.all (fun q=>Nat.blt q.2 F0) &&
  (c.T0.all (fun p=>match p.2.owned with
   | false=>true
   | true=>Nat.blt p.1 F0&&aGr (look p.1 c.e0.wr))&&(Nat.ble c.e0.new.length 8&&c.e0.wr.all fun p=>Nat.blt p.1 F0))))
def aL (gl:List (Nat × Nat)) (F0:Nat) (dec:List SV->bA->Option Canon):Sum:=fun vs T lab _=>
 match dec vs T with
 | none=>none
 | some c=>match Cs vs T c.vl with
   | none=>none
   | some sl=>match uF (pW gl sl) c.T0 T vs c.eN,XP (pW gl sl) c.T0 T c.T0,Xu (vI (pW gl sl) F0 lab) c.e0,Zv gl F0 c (pW gl sl) with
     | some p,some q,some e,true=>some { bK:=c.conds++(p++q),val:=e.val,new:=e.new,wr:=e.wr }
     | _,_,_,_=>none
theorem xI {α:Type} {f:Nat × α->Bool} {l:Nat} {v:α} {r:List (Nat × α)} (h:r.all f=true) (hl:look l r=some v):f (l,v)=true:=List.all_eq_true.1 h _ (gC hl)
theorem Ev {vs:List SV} {T:bA}:∀ {vl:List (Nat × Kj)} {sl:List (Nat × Src)},Cs vs T vl=some sl->∀ l0 s,look l0 sl=some s->∃ q,(l0,q)∈vl
 | [],sl,h,l0,s,hl=>by simp only [Cs,zzI] at h;subst h;cases hl
 | (k,q)::r,sl,h,l0,s,hl=>by
   simp only [Cs] at h
   split at h
   case h_2=>cases h
   rename_i s' t hs ht
   cases h
   by_cases e:k=l0
   .subst e;exact ⟨q,zzC⟩
   .rw [aD e] at hl
    obtain ⟨q,hq⟩:=Ev ht l0 s hl
    exact ⟨q,zzO _ hq⟩
theorem aBo {a b:Option Nat} {n:Nat} (h:aIo a b=false) (ha:a=some n):b≠some n:=by
 subst ha
 intro hb
 subst hb
 simp [aIo] at h
theorem aW {P:Program} {Γ:Env} {f:FuncId} {gl:List (Nat × Nat)} {F0:Nat} {dec:List SV->bA->Option Canon} (AN:Γ.aT=gl)
 (h:∀ vs T c,dec vs T=some c->(∀ q∈c.conds,q)->aE P Γ f c.eN (fun l=>look l c.T0) F0 F0 c.e0):aI P Γ f (aL gl F0 dec):=by
 refine aI.OB fun vs T lab F e he ho=>?_
 unfold aL at he
 split at he
 case h_1=>cases he
 rename_i c hc
 split at he
 case h_1=>cases he
 rename_i sl Rb
 split at he
 case h_2=>cases he
 rename_i p q e1 hp hq hb iE
 cases he
 have Aj:=iM ho
 have hpp:=iM (fF ho)
 have hqq:=fF (fF ho)
 unfold Zv at iE
 simp only [zzn] at iE
 obtain ⟨k1,k2,k3,k4,k5,k6⟩:=iE
 have pA:∀ l0 s,pW gl sl l0=some s->l0<F0:=by
  intro l0 s hs
  unfold pW at hs
  split at hs
  .rename_i q0 FQ
   obtain ⟨q1,hm⟩:=Ev Rb l0 _ FQ
   have:=List.all_eq_true.1 k2 _ hm
   simp only [zzn] at this
   simpa [Nat.blt_eq] using this.1
  .split at hs
   .rename_i aSj
    simp only [List.any_eq_true] at aSj
    obtain ⟨p,hm,he⟩:=aSj
    have:=List.all_eq_true.1 k3 p hm
    have he:=zzN he
    rw [<- he]
    simpa [Nat.blt_eq] using this
   .cases hs
 have key:aE P Γ f vs T lab F e1:=by
  refine TE (vw:=pW gl sl) (h vs T c hc Aj) (fun l0 hl=>?_) (fun n l hl=>?_) (fun w0 M V w xs hT hx=>?_) (fun l0 B0 hl ho=>?_) (zzL k5) (fun l0 B0 hl=>?_) hb
  .cases hv:pW gl sl l0 with
   | none=>rfl
   | some s=>have:=pA l0 s hv;omega
  .rw [AN] at hl
   have hm:=gC hl
   unfold pW
   split
   .rename_i q0 FQ
    obtain ⟨q1,hm1⟩:=Ev Rb l _ FQ
    have:=List.all_eq_true.1 k2 _ hm1
    simp only [zzn,Bool.not_eq_true'] at this
    have h2:=this.2
    exfalso
    have:(gl.any fun q=>Nat.beq q.2 l)=true:=List.any_eq_true.2 ⟨_,hm,Nat.beq_refl l⟩
    rw [h2] at this
    cases this
   .have:(gl.any fun p=>Nat.beq p.2 l)=true:=List.any_eq_true.2 ⟨_,hm,Nat.beq_refl l⟩
    rw [this]
  .have Gt:∀ l0 u,pW gl sl l0=some (.val u)->∃ x,den V u=some x:=by
    intro l0 u hu
    unfold pW at hu
    split at hu
    .rename_i q0 FQ;cases hu;exact Pe hT hx Rb l0 u FQ
    .split at hu
     .cases hu
     .cases hu
   have oP:Il T (pW gl sl):=by
    intro l0 v cs hv
    unfold pW at hv
    split at hv
    .rename_i q0 FQ
     cases hv
     exact Pd Rb l0 v cs FQ
    .split at hv
     .cases hv
     .cases hv
   have at0:∀ l0 B0,look l0 c.T0=some B0->okB (seen (pW gl sl) V) w l0 B0/\(∀ n,B0.aN (seen (pW gl sl) V) l0=some n->(∃ l B,oU (pW gl sl) l0=some l/\T l=some B/\B.aN V l=some n)\/(n<w0.heap.size/\¬ M n))/\(B0.owned=true->∃ l B,pW gl sl l0=some (.lab l 0)/\T l=some B/\B.owned=true/\∀ n,B0.aN (seen (pW gl sl) V) l0=some n->B.aN V l=some n):=by
    intro l0 B0 hl
    obtain ⟨FG,h1,h2⟩:=Li hq hqq l0 B0 hl
    exact aEj oP hT h1 h2 (Gt l0)
   refine ⟨fun ys hy=>qG oP hT hp hpp ys hy,fun l0 B0 hl=>(at0 l0 B0 hl).1,fun l0 B0 l1 B1 n dG hl Rd ho hn Jr=>?_,fun l0 B0 n hl ho hn=>?_,fun M' hM l0 B0 hl=>?_⟩
   .obtain ⟨la,Ba,c1,a2,c3,Mp⟩:=(at0 l0 B0 hl).2.2 ho
    have a3:=Mp n hn
    have a1:oU (pW gl sl) l0=some la:=by simp [oU,c1]
    rcases (at0 l1 B1 Rd).2.1 n Jr with ⟨lb,Bb,b1,b2,b3⟩ | FR
    .have hd:=xI k1 hl
     simp only [ho] at hd
     have UJ:=xI hd Rd
     simp only [Bool.or_eq_true,Bool.not_eq_true'] at UJ
     rcases UJ with UJ | UJ
     .exact dG (zzN UJ)
     .have bDg:la≠lb:=fun e=>aBo UJ a1 (by rw [b1,e])
      exact hT.jX la Ba lb Bb n bDg a2 b2 c3 a3 b3
    .rcases hT.perm la Ba n a2 c3 a3 with UI | hm
     .have:=FR.1;omega
     .exact FR.2 hm
   .obtain ⟨la,Ba,c1,a2,c3,Mp⟩:=(at0 l0 B0 hl).2.2 ho
    exact ⟨la,Ba,c1,a2,c3,Mp n hn⟩
   .obtain ⟨FG,h1,h2⟩:=Li hq hqq l0 B0 hl
    exact PI oP hT h1 h2 hM
  .have:=xI k4 hl
   simp only [ho,zzn] at this
   refine ⟨by simpa [Nat.blt_eq] using this.1,fun hn=>?_⟩
   rw [hn] at this
   cases this.2
  .have:=xI k6 hl
   simpa [Nat.blt_eq] using this
 exact key
end
noncomputable def AY (t:Nat) (k:IntKind) (ty:TypeId) (s:St):Option St:=match s.g.get t with
 | some (.raw (.slice none 0 0))=>match Tr.put (.buf s.nx) 64 s.g t,Tr.put (SB.cS k [] ty) 64 s.tb s.nx with
   | some g,some tb=>some { s with g:=g,tb:=tb,nx:=s.nx+1 }
   | _,_=>none
 | _=>none
noncomputable def pH:List (Nat × IntKind × TypeId)->St->Option St
 | [],s=>some s
 | (t,k,ty)::r,s=>match AY t k ty s with
   | some s=>pH r s
   | none=>none
section
variable {P:Program} {Γ:Env} {w0:World} {M:Nat->Prop} {B:bA} {N F0:Nat} {V0:aZ}
theorem Inv.AY {t:Nat} {k:IntKind} {ty:TypeId} {s s':St} (h:AY t k ty s=some s') {V:aZ} {a:Act} {w:World} (hi:Inv P Γ w0 M B N F0 V0 s V a w):∃ V',Inv P Γ w0 M B N F0 V0 s' V' a w:=by
 unfold Sx.AY at h
 split at h
 case h_2=>cases h
 rename_i hg
 split at h
 case h_2=>cases h
 rename_i g tb h1 h2
 cases h
 have hf:V.fresh s.nx:=hi.top.fresh
 have bQ:=aZ.bX hf s.nx (zzr _) (by omega) (.slice none 0 0)
 have hT:St.T B { s with g:=g,tb:=tb,nx:=s.nx+1 }=fun l=>if l=s.nx then some (.cS k [] ty) else s.T B l:=by
  funext l
  simp only [St.T,Tr.iH _ _ _ _ _ h2 l]
  by_cases e:l=s.nx
  .simp [e]
  .simp [e]
 refine ⟨V.aX s.nx (.slice none 0 0),fun m v hv=>?_,fun d v hv=>?_,hi.size,?_,?_,fun n l hl=>bQ.1.1 _ _ (hi.aT n l hl),fun l hl=>?_,V0.le_trans hi.le bQ.1,fun l hl=>?_,fun l hl hn=>?_,?_,fun l hl=>?_⟩
 .have hv:g.get m=some v:=hv
  rw [Tr.iH _ _ _ _ _ h1 m] at hv
  split at hv
  .rename_i e
   cases hv
   have:=hi.tmp t _ hg
   simp only [den,zzI] at this
   rw [e,<- this]
   simp [den,aZ.aX]
  .exact pL bQ.1 (hi.tmp m v hv)
 .have hv:g.get d=some v:=hv
  rw [Tr.iH _ _ _ _ _ h1 d] at hv
  split at hv
  .rename_i e;subst e;exact hi.keys d _ hg
  .exact hi.keys d v hv
 .obtain ⟨xs,h3,h4⟩:=hi.defers
  exact ⟨xs,dC bQ.1 h3,h4⟩
 .rw [hT]
  refine hi.eI.step (N:=fun l=>if l=s.nx then some (.cS k [] ty) else none) bQ.1 (fun l C hl=>?_) (fun l C hl=>?_) (fun l C n hl hn=>?_) (fun l C l' C' n _ hl _ _ hn=>?_) (zzr _) (fun _ _ _=>rfl) rfl rfl rfl
  .by_cases e:l=s.nx
   .left;simpa [e] using hl
   .right;simpa [e] using hl
  .by_cases e:l=s.nx
   .simp only [if_pos e,zzI] at hl
    subst hl e
    exact ⟨[],rfl,.slice none 0 0,by simp [aZ.aX],⟨rfl,.inl ⟨rfl,rfl⟩⟩,iS.nil rfl⟩
   .simp [e] at hl
  .by_cases e:l=s.nx
   .simp only [if_pos e,zzI] at hl
    subst hl e
    simp [SB.aN,aZ.aX,Value.ownBlock] at hn
   .simp [e] at hl
  .by_cases e:l=s.nx
   .simp only [if_pos e,zzI] at hl
    subst hl e
    simp [SB.aN,aZ.aX,Value.ownBlock] at hn
   .simp [e] at hl
 .have hl:s.nx+1<=l:=hl
  obtain ⟨e1,e2⟩:=hi.top l (by omega)
  exact ⟨e1,by simp only [aZ.aX];rw [if_neg (by omega)];exact e2⟩
 .have dG:l≠s.nx:=by have:=hi.nx;omega
  refine ⟨(hi.low l hl).1,?_⟩
  simp only [aZ.aX,if_neg dG]
  exact (hi.low l hl).2
 .have dG:l≠s.nx:=by have:=hi.nx;omega
  show tb.get l=none
  rw [Tr.iH _ _ _ _ _ h2 l,if_neg dG]
  exact hi.ch l hl hn
 .have:=hi.nx
  show F0<=s.nx+1
  omega
 .have hl:s.nx+1<=l:=hl
  rw [hT]
  simp only
  rw [if_neg (by omega)]
  exact hi.hi l (by omega)
theorem Inv.pH:∀ {l:List (Nat × IntKind × TypeId)} {s s':St},pH l s=some s'->∀ {V:aZ} {a:Act} {w:World},Inv P Γ w0 M B N F0 V0 s V a w->∃ V',Inv P Γ w0 M B N F0 V0 s' V' a w
 | [],s,s',h,V,a,w,hi=>by simp only [Sx.pH,zzI] at h;subst h;exact ⟨V,hi⟩
 | (t,k,ty)::r,s,s',h,V,a,w,hi=>by
   simp only [Sx.pH] at h
   split at h
   .rename_i s1 h1
    obtain ⟨V1,Bh⟩:=hi.AY h1
    exact Inv.pH h Bh
   .cases h
noncomputable def toN (F0:Nat) (B:bA) (Gq:List (Nat × IntKind × TypeId)) (eT:List Nat) (gs:List (Nat × SV)) (tb:List (Nat × SB)) (nx:Nat) (ws:List Nat) (df:List SV) (r:Option oY):Option (Cf × List Fr × List Prop):=match r with
 | some r=>match pH Gq r.st with
   | some s=>TM F0 B eT gs tb nx ws df (some ⟨r.cf,r.fr,s⟩)
   | none=>none
 | none=>none
theorem Pq:∀ {l:List (Nat × IntKind × TypeId)} {s s':St},pH l s=some s'->s'.ob=s.ob
 | [],s,s',h=>by simp only [pH,zzI] at h;subst h;rfl
 | (t,k,ty)::r,s,s',h=>by
   simp only [pH] at h
   split at h
   .rename_i s1 h1
    rw [Pq h]
    unfold AY at h1
    split at h1
    .split at h1
     .cases h1;rfl
     .cases h1
    .cases h1
   .cases h
theorem G.toN (aR:cC P Γ) (aU:cK P Γ) (jO:P.follows .mixedOrders=true) (hb:pZ Γ B F0 V0) {stops:List Nat} {lf n:Nat} {cf FA:Cf} {K K':List Fr} {s:St} (hs:List Bool) {Gq:List (Nat × IntKind × TypeId)} {eT:List Nat} {gs:List (Nat × SV)} {tb:List (Nat × SB)} {nx:Nat} {ws:List Nat} {df:List SV} {ps:List Prop} {Q:Exit->Act->World->Prop}
 (h:toN F0 B Gq eT gs tb nx ws df (gV Γ B F0 N stops lf n cf K (s.hint hs))=some (FA,K',ps)) (hp:∀ q∈ps,q) (hG:G P Γ w0 M B N F0 V0 FA K' (bM gs tb nx ws df) Q):G P Γ w0 M B N F0 V0 cf K s Q:=by
 unfold Sx.toN at h
 split at h
 case h_2=>cases h
 rename_i r hr
 split at h
 case h_2=>cases h
 rename_i s0 h0
 unfold TM at h
 simp only at h
 split at h
 case h_2=>cases h
 rename_i s1 h1
 split at h
 case h_2=>cases h
 rename_i FG h2
 cases h
 have uA:=Pq h0
 have dS:G P Γ w0 M B N F0 V0 cf K (s.hint hs) Q:=by
  refine G.run aR aU jO hr (fun q hq=>hp q (List.mem_append_left _ (uA ▸ hq))) ?_
  intro V a w hi
  obtain ⟨V1,Bh⟩:=Inv.pH h0 hi
  obtain ⟨V2,Wv⟩:=Bh.norm hb h1
  exact hG V2 a w (Wv.cast hb h2 (fF hp))
 intro V a w hi
 exact dS V a w (hi.hints s.ob hs)
mutual
def IJ:SV->SV->List (Nat × Nat)
 | .ptr l _ _,.ptr l' _ _=>[(l',l)]
 | .aJ l _ _ _ _,.aJ l' _ _ _ _=>[(l',l)]
 | .cQ l _ _ _,.cQ l' _ _ _=>[(l',l)]
 | .buf l,.buf l'=>[(l',l)]
 | .jQ l _,.jQ l' _=>[(l',l)]
 | .nH l _ _,.nH l' _ _=>[(l',l)]
 | .eH l _,.eH l' _=>[(l',l)]
 | .tZ l _,.tZ l' _=>[(l',l)]
 | .xZ l _ _,.xZ l' _ _=>[(l',l)]
 | .rG _ v,.rG _ v'=>IJ v v'
 | .agg vs,.agg us=>zR vs us
 | .eP vs,.eP us=>zR vs us
 | .fn _ xs ys,.fn _ us vs=>zR xs us++zR ys vs
 | _,_=>[]
def zR:List SV->List SV->List (Nat × Nat)
 | v::r,u::t=>IJ v u++zR r t
 | _,_=>[]
end
def IK (g:Nat->Option SV):List (Nat × SV)->List (Nat × Nat)
 | []=>[]
 | (t,u)::r=>match g t with
   | some v=>IJ v u++IK g r
   | none=>IK g r
def Hw (g:Nat->Option SB) (ps:List (Nat × Nat)):List (Nat × SB)->List (Nat × Nat)
 | []=>[]
 | (l,B)::r=>match B,look l ps with
   | .own us _,some k=>match g k with
     | some (.own vs _)=>zR vs us++Hw g ps r
     | _=>Hw g ps r
   | .own us _,none=>match g l with
     | some (.own vs _)=>zR vs us++Hw g ps r
     | _=>Hw g ps r
   | _,_=>Hw g ps r
def Ec (g:Nat->Option SB) (ps:List (Nat × Nat)):List (Nat × SB)->List (Nat × Nat)
 | []=>[]
 | (l,B)::r=>match B,look l ps with
   | .own us _,some k=>match g k with
     | some (.own vs _)=>zR vs us++Ec g ps r
     | _=>Ec g ps r
   | _,_=>Ec g ps r
def ME (ps:List (Nat × Nat)) (l:Nat):Nat->List Nat
 | 0=>[]
 | n+1=>(look l ps).getD 0::ME ps (l+1) n
noncomputable def aWd (F0:Nat) (gs:List (Nat × SV)) (tb:List (Nat × SB)) (nx:Nat) (s:St):List Nat:=
 let p1:=IK s.g.get gs
 let p2:=p1++Ec s.tb.get p1 tb
 let p3:=p2++Ec s.tb.get p2 tb
 let p4:=p3++Hw s.tb.get p3 tb
 ME p4 F0 (nx-F0)
noncomputable def Ah (F0:Nat) (B:bA) (Gq:List (Nat × IntKind × TypeId)) (gs:List (Nat × SV)) (tb:List (Nat × SB)) (nx:Nat) (ws:List Nat) (df:List SV) (r:Option oY):Option (Cf × List Fr × List Prop):=match r with
 | some r=>match pH Gq r.st with
   | some s=>toN F0 B Gq (aWd F0 gs tb nx s) gs tb nx ws df (some r)
   | none=>none
 | none=>none
theorem G.Ah (aR:cC P Γ) (aU:cK P Γ) (jO:P.follows .mixedOrders=true) (hb:pZ Γ B F0 V0) {stops:List Nat} {lf n:Nat} {cf FA:Cf} {K K':List Fr} {s:St} (hs:List Bool) {Gq:List (Nat × IntKind × TypeId)} {gs:List (Nat × SV)} {tb:List (Nat × SB)} {nx:Nat} {ws:List Nat} {df:List SV} {ps:List Prop} {Q:Exit->Act->World->Prop}
 (h:Ah F0 B Gq gs tb nx ws df (gV Γ B F0 N stops lf n cf K (s.hint hs))=some (FA,K',ps)) (hp:∀ q∈ps,q) (hG:G P Γ w0 M B N F0 V0 FA K' (bM gs tb nx ws df) Q):G P Γ w0 M B N F0 V0 cf K s Q:=by
 unfold Sx.Ah at h
 split at h
 case h_2=>cases h
 rename_i r hr
 split at h
 case h_2=>cases h
 rename_i s0 h0
 exact G.toN aR aU jO hb hs (stops:=stops) (lf:=lf) (n:=n) (by rw [hr];exact h) hp hG
theorem G.lW (aR:cC P Γ) (aU:cK P Γ) (jO:P.follows .mixedOrders=true) (hb:pZ Γ B F0 V0) {stops:List Nat} {lf n:Nat} {cf:Cf} {K1 K:List Fr} {s:St} (hs:List Bool) {Gq:List (Nat × IntKind × TypeId)} {gs:List (Nat × SV)} {tb:List (Nat × SB)} {nx:Nat} {ws:List Nat} {df:List SV} {ps:List Prop} {Q:Exit->Act->World->Prop} {S:Nat->St->Prop} {r:Nat}
 (h:Sx.Ah F0 B Gq gs tb nx ws df (gV Γ B F0 N stops lf n cf K1 (s.hint hs))=some (.at .normal,[],ps)) (hp:∀ q∈ps,q) (r':Nat) (cM:r'<r) (hS:S r' (bM gs tb nx ws df)) :
 G P Γ w0 M B N F0 V0 cf K1 s (Exit.then (fun a w=>∃ r',r'<r/\∃ s',S r' s'/\∃ V,Inv P Γ w0 M B N F0 V0 s' V a w) (KQ P K Q)):=
 G.Ah aR aU jO hb hs h hp (G.again fun V _ _ hi=>⟨r',cM,_,hS,V,hi⟩)
end
theorem aAu {α:Type} (tm:Array α) (t:Nat) (d:α):tm.setIfInBounds t (tm.getD t d)=tm:=by
 apply Array.ext
 .simp
 .intro i h1 h2
  rw [Array.getElem_setIfInBounds (by simpa using h1)]
  split
  .rename_i e;subst e;simp [Array.getD_eq_getD_getElem?,h2]
  .rfl
theorem Act.iV (a:Act) (t:Tmp):a.put (some t) (a.eval (.tmp t))=a:=by
 obtain ⟨tm,df⟩:=a
 show Act.mk (tm.setIfInBounds t (tm.getD t undef)) df=_
 rw [aAu]
section
variable {w0 w:World} {M:Nat->Prop} {V:aZ} {T:bA} {lab:Nat}
theorem aC.close (h:aC w0 M V T w) (hf:V.fresh lab) (kM:∀ k,lab<=k->T k=none) {l cap n m:Nat} {cells:List SV} {el:TypeId} (hl:T l=some (.own cells el)) (hc:cells.length=cap) (hm:m<=cap) (rC:cap<=1000000) {lb:Nat} {cs:List SV} {ty:TypeId} {i:Nat}
 (hb:T lb=some (.own cs ty)) (hi:cs[i]?=some (.aJ l true 0 n cap)) (dG:l≠lb) (v:SV) :
 ∃ V',V.ext lab V'/\aC w0 M V' (eG T lab { val:=v,new:=[.row 1 (cells.take m) el],wr:=[(l,.gone),(lb,.own (cs.set i (.cQ lab 0 n 0)) ty)] }) w:=by
 obtain ⟨us,pU,b,hβ,hh⟩:=h.ok l _ hl
 obtain ⟨xs,mJ,b2,nD,VK⟩:=h.ok lb _ hb
 have cM:l<lab:=Nat.lt_of_not_le fun q=>by rw [kM l q] at hl;cases hl
 have XF:lb<lab:=Nat.lt_of_not_le fun q=>by rw [kM lb q] at hb;cases hb
 have bQ:V.ext lab ((V.put lab (b,0)).aX lab (.int .i64 (cap:Nat))):=by
  have h1:=aZ.kG hf lab (zzr _) (by omega) (b,0)
  refine ⟨⟨fun k p hp=>h1.1.1 k p hp,fun k p hp=>?_⟩,fun k hk=>⟨(h1.2 k hk).1,?_⟩⟩
  .simp only [aZ.aX]
   by_cases e:k=lab
   .subst e;rw [(hf k (zzr _) (by omega)).2] at hp;cases hp
   .rw [if_neg e];exact hp
  .simp only [aZ.aX]
   rw [if_neg (by omega)]
   rfl
 refine ⟨_,bQ,?_⟩
 obtain ⟨V',Rf⟩:∃ V',V'=(V.put lab (b,0)).aX lab (.int .i64 (cap:Nat)):=⟨_,rfl⟩
 rw [<- Rf] at bQ |-
 have e1:V'.β lab=some (b,0):=by rw [Rf];simp [aZ.put,aZ.aX]
 have e2:V'.σ lab=some (.int .i64 (cap:Nat)):=by rw [Rf];simp [aZ.aX]
 have zU:us.length=cap:=by rw [bC pU,hc]
 have FY:b≠b2:=by
  intro e
  exact h.jX l _ lb _ b dG hl hb rfl (by simp [SB.aN,hβ]) (by simp [SB.aN,nD,e])
 have oO:aG V' (cs.set i (.cQ lab 0 n 0))=some xs:=by
  have gM:aG V' cs=some xs:=dC bQ.1 mJ
  obtain ⟨x,nX,Jp⟩:=dZ gM i _ hi
  have hx4:den V' (.cQ lab 0 n 0)=some x:=by
   simp only [den,bQ.1.1 _ _ hβ,zzm,zzI] at Jp
   rw [<- Jp]
   simp [den,e1,e2,oD]
  have gen:∀ (cs:List SV) (xs:List Value) (i:Nat),aG V' cs=some xs->xs[i]?=some x->aG V' (cs.set i (.cQ lab 0 n 0))=some xs:=by
   intro cs
   induction cs with
   | nil=>intro xs i h1 h2;simpa using h1
   | cons c r ih=>
     intro xs i h1 h2
     simp only [aG,zzM,zzB] at h1
     obtain ⟨y,hy,ys,rK,rfl⟩:=h1
     cases i with
     | zero=>
       simp only [List.getElem?_cons_zero,zzI] at h2
       subst h2
       simp only [List.set_cons_zero,aG,hx4,rK,zza,zzm]
     | succ i=>
       simp only [List.getElem?_cons_succ] at h2
       simp only [List.set_cons_succ,aG,hy,ih ys i rK h2,zza,zzm]
  exact gen cs xs i gM nX
 refine h.step (N:=fun k=>if k=lab then some (.row 1 (cells.take m) el) else if k=l then some .gone else if k=lb then some (.own (cs.set i (.cQ lab 0 n 0)) ty) else none) bQ.1 (fun k C hk=>?_) (fun k C hk=>?_) (fun k C p hk hp=>?_) (fun k C k' C' p Au hk iA ho hp=>?_) (zzr _) (fun _ _ _=>rfl) rfl rfl rfl
 .simp only [eG,bL.eI,fT,List.cons_append,zzv] at hk
  by_cases k1:l=k
  .subst k1
   rw [aH] at hk
   left
   simp only [if_neg (show ¬ l=lab by omega),if_true]
   simpa using hk
  .rw [aD k1] at hk
   by_cases k2:lb=k
   .subst k2
    rw [aH] at hk
    left
    simp only [if_neg (show ¬ lb=lab by omega),if_neg (fun q=>dG (Eq.symm q)),if_true]
    simpa using hk
   .rw [aD k2] at hk
    by_cases k3:lab=k
    .subst k3;rw [aH] at hk;left;simpa using hk
    .rw [aD k3] at hk
     right
     simp only [look] at hk
     exact ⟨by rw [if_neg (fun q=>k3 q.symm),if_neg (fun q=>k1 q.symm),if_neg (fun q=>k2 q.symm)],hk⟩
 .by_cases k1:k=lab
  .rw [if_pos k1] at hk
   cases hk
   subst k1
   refine ⟨us.take m,by simp only [SB.cells];exact dC bQ.1 (eO m pU),b,cap,us.toArray,e1,e2,hh,?_,by simp [zU],⟨m,by simp [zU];omega,hm⟩,by simp⟩
   have:(1000000:Nat)<=maxLen:=by decide
   omega
  .rw [if_neg k1] at hk
   by_cases k2:k=l
   .rw [if_pos k2] at hk;cases hk;exact ⟨[],rfl,trivial⟩
   .rw [if_neg k2] at hk
    by_cases k3:k=lb
    .rw [if_pos k3] at hk
     cases hk
     subst k3
     exact ⟨xs,oO,b2,bQ.1.1 _ _ nD,VK⟩
    .rw [if_neg k3] at hk;cases hk
 .by_cases k1:k=lab
  .rw [if_pos k1] at hk
   cases hk
   subst k1
   simp only [SB.aN,e1,zzm,zzI] at hp
   subst hp
   right;left
   exact ⟨l,_,hl,rfl,by simp [SB.aN,hβ],by simp [if_neg (show ¬ l=k by omega)]⟩
  .rw [if_neg k1] at hk
   by_cases k2:k=l
   .rw [if_pos k2] at hk;cases hk;cases hp
   .rw [if_neg k2] at hk
    by_cases k3:k=lb
    .rw [if_pos k3] at hk
     cases hk
     subst k3
     simp only [SB.aN,bQ.1.1 _ _ nD,zzm,zzI] at hp
     subst hp
     right;left
     exact ⟨k,_,hb,rfl,by simp [SB.aN,nD],by simp [if_neg k1,if_neg k2]⟩
    .rw [if_neg k3] at hk;cases hk
 .have aN:∀ k C p,(if k=lab then some (SB.row 1 (cells.take m) el) else if k=l then some .gone else if k=lb then some (.own (cs.set i (.cQ lab 0 n 0)) ty) else none)=some C->C.aN V' k=some p->(k=lab/\p=b)\/(k=lb/\p=b2):=by
   intro k C p hk hp
   by_cases k1:k=lab
   .rw [if_pos k1] at hk
    cases hk
    subst k1
    simp only [SB.aN,e1,zzm,zzI] at hp
    exact .inl ⟨rfl,hp.symm⟩
   .rw [if_neg k1] at hk
    by_cases k2:k=l
    .rw [if_pos k2] at hk;cases hk;cases hp
    .rw [if_neg k2] at hk
     by_cases k3:k=lb
     .rw [if_pos k3] at hk
      cases hk
      subst k3
      simp only [SB.aN,bQ.1.1 _ _ nD,zzm,zzI] at hp
      exact .inr ⟨rfl,hp.symm⟩
     .rw [if_neg k3] at hk;cases hk
  intro Rr
  rcases aN k C p hk hp with ⟨r1,r2⟩ | ⟨r1,r2⟩ <;> rcases aN k' C' p iA Rr with ⟨r3,r4⟩ | ⟨r3,r4⟩
  .omega
  .exact FY (r2.symm.trans r4)
  .exact FY (r4.symm.trans r2)
  .omega
theorem aC.aQk (h:aC w0 M V T w) (hf:V.fresh lab) (kM:∀ k,lab<=k->T k=none) {l cap n m:Nat} {cells:List SV} {el:TypeId} (hl:T l=some (.own cells el)) (hc:cells.length=cap) (hm:m<=cap) (rC:cap<=1000000) {x:Value} (hx:den V (.aJ l true 0 n cap)=some x) :
 ∃ V',V.ext lab V'/\den V' (.cQ lab 0 n 0)=some x/\aC w0 M V' (eG T lab { val:=.cQ lab 0 n 0,new:=[.row 1 (cells.take m) el],wr:=[(l,.gone)] }) w:=by
 obtain ⟨us,pU,b,hβ,hh⟩:=h.ok l _ hl
 have cM:l<lab:=Nat.lt_of_not_le fun q=>by rw [kM l q] at hl;cases hl
 have bQ:V.ext lab ((V.put lab (b,0)).aX lab (.int .i64 (cap:Nat))):=by
  have h1:=aZ.kG hf lab (zzr _) (by omega) (b,0)
  refine ⟨⟨fun k p hp=>h1.1.1 k p hp,fun k p hp=>?_⟩,fun k hk=>⟨(h1.2 k hk).1,?_⟩⟩
  .simp only [aZ.aX]
   by_cases e:k=lab
   .subst e;rw [(hf k (zzr _) (by omega)).2] at hp;cases hp
   .rw [if_neg e];exact hp
  .simp only [aZ.aX]
   rw [if_neg (by omega)]
   rfl
 refine ⟨_,bQ,?_⟩
 obtain ⟨V',Rf⟩:∃ V',V'=(V.put lab (b,0)).aX lab (.int .i64 (cap:Nat)):=⟨_,rfl⟩
 rw [<- Rf] at bQ |-
 have e1:V'.β lab=some (b,0):=by rw [Rf];simp [aZ.put,aZ.aX]
 have e2:V'.σ lab=some (.int .i64 (cap:Nat)):=by rw [Rf];simp [aZ.aX]
 have zU:us.length=cap:=by rw [bC pU,hc]
 refine ⟨?_,?_⟩
 .simp only [den,hβ,zzm,zzI] at hx
  rw [<- hx]
  simp [den,e1,e2,oD]
 refine h.step (N:=fun k=>if k=lab then some (.row 1 (cells.take m) el) else if k=l then some .gone else none) bQ.1 (fun k C hk=>?_) (fun k C hk=>?_) (fun k C p hk hp=>?_) (fun k C k' C' p Au hk iA ho hp=>?_) (zzr _) (fun _ _ _=>rfl) rfl rfl rfl
 .simp only [eG,bL.eI,fT,List.cons_append,zzv] at hk
  by_cases k1:l=k
  .subst k1
   rw [aH] at hk
   left
   simp only [if_neg (show ¬ l=lab by omega),if_true]
   simpa using hk
  .rw [aD k1] at hk
   by_cases k3:lab=k
   .subst k3;rw [aH] at hk;left;simpa using hk
   .rw [aD k3] at hk
    right
    simp only [look] at hk
    exact ⟨by rw [if_neg (fun q=>k3 q.symm),if_neg (fun q=>k1 q.symm)],hk⟩
 .by_cases k1:k=lab
  .rw [if_pos k1] at hk
   cases hk
   subst k1
   refine ⟨us.take m,by simp only [SB.cells];exact dC bQ.1 (eO m pU),b,cap,us.toArray,e1,e2,hh,?_,by simp [zU],⟨m,by simp [zU];omega,hm⟩,by simp⟩
   have:(1000000:Nat)<=maxLen:=by decide
   omega
  .rw [if_neg k1] at hk
   by_cases k2:k=l
   .rw [if_pos k2] at hk;cases hk;exact ⟨[],rfl,trivial⟩
   .rw [if_neg k2] at hk;cases hk
 .by_cases k1:k=lab
  .rw [if_pos k1] at hk
   cases hk
   subst k1
   simp only [SB.aN,e1,zzm,zzI] at hp
   subst hp
   right;left
   exact ⟨l,_,hl,rfl,by simp [SB.aN,hβ],by simp [if_neg (show ¬ l=k by omega)]⟩
  .rw [if_neg k1] at hk
   by_cases k2:k=l
   .rw [if_pos k2] at hk;cases hk;cases hp
   .rw [if_neg k2] at hk;cases hk
 .intro Rr
  by_cases k1:k=lab
  .by_cases k2:k'=lab
   .omega
   .rw [if_neg k2] at iA
    by_cases k3:k'=l
    .rw [if_pos k3] at iA;cases iA;cases Rr
    .rw [if_neg k3] at iA;cases iA
  .rw [if_neg k1] at hk
   by_cases k3:k=l
   .rw [if_pos k3] at hk;cases hk;cases ho
   .rw [if_neg k3] at hk;cases hk
theorem aC.aQl (h:aC w0 M V T w) (hf:V.fresh lab) (kM:∀ k,lab<=k->T k=none) {l cap n:Nat} {cells:List SV} {el:TypeId} {k0:IntKind} {ns:List Int} (hl:T l=some (.own cells el)) (hc:cells.length=cap) (hn:n<=cap) (rC:cap<=1000000) (hk:dA k0 (cells.take n)=some ns) (kU:(dA k0 cells).isSome=true) {x:Value} (hx:den V (.aJ l true 0 n cap)=some x) :
 ∃ V',V.ext lab V'/\den V' (.buf lab)=some x/\aC w0 M V' (eG T lab { val:=.buf lab,new:=[.cS k0 ns el],wr:=[(l,.gone)] }) w:=by
 obtain ⟨us,pU,b,hβ,hh⟩:=h.ok l _ hl
 have cM:l<lab:=Nat.lt_of_not_le fun q=>by rw [kM l q] at hl;cases hl
 have bQ:=aZ.bX hf lab (zzr _) (by omega) x
 have e2:(V.aX lab x).σ lab=some x:=by simp [aZ.aX]
 have zU:us.length=cap:=by rw [bC pU,hc]
 have hx':x = .slice (some ⟨b,0,none⟩) n cap:=by
  simp only [den,hβ,zzm,zzI] at hx
  exact hx.symm
 have cT:us.take n=ns.map (Value.int k0):=by
  have h1:=eO n pU
  have h2:=cX (V:=V) hk
  rw [h1] at h2
  exact Option.some.inj h2
 have JL:ns.length=n:=by
  have:=congrArg List.length cT
  simp [zU] at this
  omega
 refine ⟨_,bQ,by simp [den,e2],?_⟩
 refine h.step (N:=fun k=>if k=lab then some (.cS k0 ns el) else if k=l then some .gone else none) bQ.1 (fun k C hk=>?_) (fun k C hk=>?_) (fun k C p hk hp=>?_) (fun k C k' C' p Au hk iA ho hp=>?_) (zzr _) (fun _ _ _=>rfl) rfl rfl rfl
 .simp only [eG,bL.eI,fT,List.cons_append,zzv] at hk
  by_cases k1:l=k
  .subst k1
   rw [aH] at hk
   left
   simp only [if_neg (show ¬ l=lab by omega),if_true]
   simpa using hk
  .rw [aD k1] at hk
   by_cases k3:lab=k
   .subst k3;rw [aH] at hk;left;simpa using hk
   .rw [aD k3] at hk
    right
    simp only [look] at hk
    exact ⟨by rw [if_neg (fun q=>k3 q.symm),if_neg (fun q=>k1 q.symm)],hk⟩
 .by_cases k1:k=lab
  .rw [if_pos k1] at hk
   cases hk
   subst k1
   refine ⟨_,rfl,x,e2,⟨by simp,.inr ⟨b,cap,us.toArray,?_,Nat.zero_le _,hh,by rw [JL];exact hn,?_,by simp [zU],?_⟩⟩,fun b' iO=>?_⟩
   .rw [hx',JL]
   .have:(1000000:Nat)<=maxLen:=by decide
    omega
   .rw [JL,<- cT];simp
   .rw [hx'] at iO
    cases iO
    obtain ⟨ms,Rs⟩:=Option.isSome_iff_exists.1 kU
    have h2:=cX (V:=V) Rs
    have bCs:aG V cells=some us:=pU
    rw [bCs] at h2
    cases h2
    refine ⟨_,_,_,hh,fun q hq=>?_⟩
    obtain ⟨n,_,rfl⟩:=List.mem_map.1 (by simpa using hq)
    exact ⟨n,rfl⟩
  .rw [if_neg k1] at hk
   by_cases k2:k=l
   .rw [if_pos k2] at hk;cases hk;exact ⟨[],rfl,trivial⟩
   .rw [if_neg k2] at hk;cases hk
 .by_cases k1:k=lab
  .rw [if_pos k1] at hk
   cases hk
   subst k1
   simp only [SB.aN,e2,zza] at hp
   rw [hx'] at hp
   simp only [Value.ownBlock,zzI] at hp
   subst hp
   right;left
   exact ⟨l,_,hl,rfl,by simp [SB.aN,hβ],by simp [if_neg (show ¬ l=k by omega)]⟩
  .rw [if_neg k1] at hk
   by_cases k2:k=l
   .rw [if_pos k2] at hk;cases hk;cases hp
   .rw [if_neg k2] at hk;cases hk
 .intro Rr
  by_cases k1:k=lab
  .by_cases k2:k'=lab
   .omega
   .rw [if_neg k2] at iA
    by_cases k3:k'=l
    .rw [if_pos k3] at iA;cases iA;cases Rr
    .rw [if_neg k3] at iA;cases iA
  .rw [if_neg k1] at hk
   by_cases k3:k=l
   .rw [if_pos k3] at hk;cases hk;cases ho
   .rw [if_neg k3] at hk;cases hk
theorem aC.aQv (hT:aC w0 M V T w) (hf:V.fresh lab) {l n:Nat} {k:IntKind} {xs:List Int} (hB:T l=some (.gL k xs)) {x:Value} (hx:den V (.eH l n)=some x) :
 ∃ V',V.ext lab V'/\den V' (.eH lab n)=some x/\aC w0 M V' (eG T lab { val:=.eH lab n,new:=[.gL k xs] }) w:=by
 simp only [den,zzB] at hx
 obtain ⟨v,hσ,ex⟩:=hx
 obtain ⟨cs,hc,v',fY,bN⟩:=hT.ok l _ hB
 rw [hσ] at fY
 cases fY
 have bQ:=aZ.bX hf lab (zzr _) (by omega) v
 refine ⟨V.aX lab v,bQ,by simp [den,aZ.aX,ex],?_⟩
 refine hT.step (N:=fun m=>if m=lab then some (.gL k xs) else none) bQ.1 (fun m C hm=>?_) (fun m C hm=>?_) (fun m C q hm hq=>?_) (fun m C m' C' q dG hm kL uB _=>?_) (zzr _) (fun _ _ _=>rfl) rfl rfl rfl
 .unfold eG bL.eI at hm
  simp only [fT,zzv,look] at hm
  by_cases e:m=lab
  .subst e
   left
   simpa using hm
  .right
   refine ⟨if_neg e,?_⟩
   have:Nat.beq lab m=false:=by
    cases lR:Nat.beq lab m with
    | false=>rfl
    | true=>exact absurd (zzN lR).symm e
   simpa [this] using hm
 .split at hm
  .rename_i e
   subst e
   cases hm
   exact ⟨cs,hc,v,by simp [aZ.aX],bN⟩
  .cases hm
 .split at hm
  .rename_i e
   subst e
   cases hm
   refine .inr (.inr ⟨rfl,fun l2 B2 UG tQ uB lR=>?_⟩)
   simp only [SB.aN,aZ.aX,if_pos,zza] at hq
   have dG:l2≠l:=fun e=>by subst e;rw [hB] at tQ;cases tQ;cases uB
   exact hT.jX l2 B2 l _ q dG tQ hB uB lR (by simp [SB.aN,hσ,hq])
  .cases hm
 .split at hm
  .cases hm;cases uB
  .cases hm
theorem pM {V:aZ} {x:Value} {v:SV} (hv:den V v=some x):∀ (cs:List SV) (xs:List Value) (i:Nat),aG V cs=some xs->xs[i]?=some x->aG V (cs.set i v)=some xs
 | [],xs,i,h1,h2=>by simpa using h1
 | c::r,xs,i,h1,h2=>by
   simp only [aG,zzM,zzB] at h1
   obtain ⟨y,hy,ys,rK,rfl⟩:=h1
   cases i with
   | zero=>
     simp only [List.getElem?_cons_zero,zzI] at h2
     subst h2
     simp only [List.set_cons_zero,aG,hv,rK,zza,zzm]
   | succ i=>
     simp only [List.getElem?_cons_succ] at h2
     simp only [List.set_cons_succ,aG,hy,pM hv r ys i rK h2,zza,zzm]
theorem aC.bBk (h:aC w0 M V T w) (hf:V.fresh lab) (kM:∀ k,lab<=k->T k=none) {lb:Nat} {cs:List SV} {ty el:TypeId} {k0:IntKind} {i:Nat}
 (hb:T lb=some (.own cs ty)) (hi:cs[i]?=some (.raw (.slice none 0 0))) (v:SV) :
 ∃ V',V.ext lab V'/\aC w0 M V' (eG T lab { val:=v,new:=[.cS k0 [] el],wr:=[(lb,.own (cs.set i (.buf lab)) ty)] }) w:=by
 obtain ⟨xs,mJ,b2,nD,VK⟩:=h.ok lb _ hb
 have XF:lb<lab:=Nat.lt_of_not_le fun q=>by rw [kM lb q] at hb;cases hb
 have bQ:=aZ.bX hf lab (zzr _) (by omega) (.slice none 0 0)
 refine ⟨_,bQ,?_⟩
 have e2:(V.aX lab (.slice none 0 0)).σ lab=some (.slice none 0 0):=by simp [aZ.aX]
 have oO:aG (V.aX lab (.slice none 0 0)) (cs.set i (.buf lab))=some xs:=by
  have gM:aG (V.aX lab (.slice none 0 0)) cs=some xs:=dC bQ.1 mJ
  obtain ⟨x,nX,Jp⟩:=dZ gM i _ hi
  simp only [den,zzI] at Jp
  exact pM (by rw [<- Jp];simp [den,e2]) cs xs i gM nX
 refine h.step (N:=fun k=>if k=lab then some (.cS k0 [] el) else if k=lb then some (.own (cs.set i (.buf lab)) ty) else none) bQ.1 (fun k C hk=>?_) (fun k C hk=>?_) (fun k C p hk hp=>?_) (fun k C k' C' p Au hk iA ho hp=>?_) (zzr _) (fun _ _ _=>rfl) rfl rfl rfl
 .simp only [eG,bL.eI,fT,List.cons_append,zzv] at hk
  by_cases k2:lb=k
  .subst k2
   rw [aH] at hk
   left
   simp only [if_neg (show ¬ lb=lab by omega),if_true]
   simpa using hk
  .rw [aD k2] at hk
   by_cases k3:lab=k
   .subst k3;rw [aH] at hk;left;simpa using hk
   .rw [aD k3] at hk
    right
    simp only [look] at hk
    exact ⟨by rw [if_neg (fun q=>k3 q.symm),if_neg (fun q=>k2 q.symm)],hk⟩
 .by_cases k1:k=lab
  .rw [if_pos k1] at hk
   cases hk
   subst k1
   exact ⟨[],rfl,_,e2,⟨rfl,.inl ⟨rfl,rfl⟩⟩,iS.nil rfl⟩
  .rw [if_neg k1] at hk
   by_cases k3:k=lb
   .rw [if_pos k3] at hk
    cases hk
    subst k3
    exact ⟨xs,oO,b2,bQ.1.1 _ _ nD,VK⟩
   .rw [if_neg k3] at hk;cases hk
 .by_cases k1:k=lab
  .rw [if_pos k1] at hk
   cases hk
   subst k1
   simp [SB.aN,e2,Value.ownBlock] at hp
  .rw [if_neg k1] at hk
   by_cases k3:k=lb
   .rw [if_pos k3] at hk
    cases hk
    subst k3
    simp only [SB.aN,bQ.1.1 _ _ nD,zzm,zzI] at hp
    subst hp
    right;left
    exact ⟨k,_,hb,rfl,by simp [SB.aN,nD],by simp [if_neg k1]⟩
   .rw [if_neg k3] at hk;cases hk
 .intro Rr
  by_cases k1:k=lab
  .rw [if_pos k1] at hk
   cases hk
   subst k1
   simp [SB.aN,e2,Value.ownBlock] at hp
  .by_cases k2:k'=lab
   .rw [if_pos k2] at iA
    cases iA
    subst k2
    simp [SB.aN,e2,Value.ownBlock] at Rr
   .rw [if_neg k1] at hk
    rw [if_neg k2] at iA
    by_cases k3:k=lb
    .by_cases k4:k'=lb
     .omega
     .rw [if_neg k4] at iA;cases iA
    .rw [if_neg k3] at hk;cases hk
theorem aC.aIv (h:aC w0 M V T w) (hf:V.fresh lab) (kM:∀ k,lab<=k->T k=none) {lb:Nat} {cs:List SV} {ty el:TypeId} {sz:Nat} {i:Nat}
 (hb:T lb=some (.own cs ty)) (hi:cs[i]?=some (.raw (.slice none 0 0))) (v:SV) :
 ∃ V',V.ext lab V'/\aC w0 M V' (eG T lab { val:=v,new:=[.fX sz 0 el],wr:=[(lb,.own (cs.set i (.buf lab)) ty)] }) w:=by
 obtain ⟨xs,mJ,b2,nD,VK⟩:=h.ok lb _ hb
 have XF:lb<lab:=Nat.lt_of_not_le fun q=>by rw [kM lb q] at hb;cases hb
 have bQ:=aZ.bX hf lab (zzr _) (by omega) (.slice none 0 0)
 refine ⟨_,bQ,?_⟩
 have e2:(V.aX lab (.slice none 0 0)).σ lab=some (.slice none 0 0):=by simp [aZ.aX]
 have oO:aG (V.aX lab (.slice none 0 0)) (cs.set i (.buf lab))=some xs:=by
  have gM:aG (V.aX lab (.slice none 0 0)) cs=some xs:=dC bQ.1 mJ
  obtain ⟨x,nX,Jp⟩:=dZ gM i _ hi
  simp only [den,zzI] at Jp
  exact pM (by rw [<- Jp];simp [den,e2]) cs xs i gM nX
 refine h.step (N:=fun k=>if k=lab then some (.fX sz 0 el) else if k=lb then some (.own (cs.set i (.buf lab)) ty) else none) bQ.1 (fun k C hk=>?_) (fun k C hk=>?_) (fun k C p hk hp=>?_) (fun k C k' C' p Au hk iA ho hp=>?_) (zzr _) (fun _ _ _=>rfl) rfl rfl rfl
 .simp only [eG,bL.eI,fT,List.cons_append,zzv] at hk
  by_cases k2:lb=k
  .subst k2
   rw [aH] at hk
   left
   simp only [if_neg (show ¬ lb=lab by omega),if_true]
   simpa using hk
  .rw [aD k2] at hk
   by_cases k3:lab=k
   .subst k3;rw [aH] at hk;left;simpa using hk
   .rw [aD k3] at hk
    right
    simp only [look] at hk
    exact ⟨by rw [if_neg (fun q=>k3 q.symm),if_neg (fun q=>k2 q.symm)],hk⟩
 .by_cases k1:k=lab
  .rw [if_pos k1] at hk
   cases hk
   subst k1
   exact ⟨[],rfl,_,[],e2,⟨by simp,.inl ⟨rfl,rfl⟩⟩,fun q hq=>by cases hq⟩
  .rw [if_neg k1] at hk
   by_cases k3:k=lb
   .rw [if_pos k3] at hk
    cases hk
    subst k3
    exact ⟨xs,oO,b2,bQ.1.1 _ _ nD,VK⟩
   .rw [if_neg k3] at hk;cases hk
 .by_cases k1:k=lab
  .rw [if_pos k1] at hk
   cases hk
   subst k1
   simp [SB.aN,e2,Value.ownBlock] at hp
  .rw [if_neg k1] at hk
   by_cases k3:k=lb
   .rw [if_pos k3] at hk
    cases hk
    subst k3
    simp only [SB.aN,bQ.1.1 _ _ nD,zzm,zzI] at hp
    subst hp
    right;left
    exact ⟨k,_,hb,rfl,by simp [SB.aN,nD],by simp [if_neg k1]⟩
   .rw [if_neg k3] at hk;cases hk
 .intro Rr
  by_cases k1:k=lab
  .rw [if_pos k1] at hk
   cases hk
   subst k1
   simp [SB.aN,e2,Value.ownBlock] at hp
  .by_cases k2:k'=lab
   .rw [if_pos k2] at iA
    cases iA
    subst k2
    simp [SB.aN,e2,Value.ownBlock] at Rr
   .rw [if_neg k1] at hk
    rw [if_neg k2] at iA
    by_cases k3:k=lb
    .by_cases k4:k'=lb
     .omega
     .rw [if_neg k4] at iA;cases iA
    .rw [if_neg k3] at hk;cases hk
theorem aC.aVo (h:aC w0 M V T w) (hf:V.fresh lab) (kM:∀ k,lab<=k->T k=none) {lb:Nat} {cs:List SV} {ty el:TypeId} {i:Nat}
 (hb:T lb=some (.own cs ty)) (hi:cs[i]?=some (.raw (.slice none 0 0))) (v:SV) :
 ∃ V',V.ext lab V'/\aC w0 M V' (eG T lab { val:=v,new:=[.eQ [] el],wr:=[(lb,.own (cs.set i (.buf lab)) ty)] }) w:=by
 obtain ⟨xs,mJ,b2,nD,VK⟩:=h.ok lb _ hb
 have XF:lb<lab:=Nat.lt_of_not_le fun q=>by rw [kM lb q] at hb;cases hb
 have bQ:=aZ.bX hf lab (zzr _) (by omega) (.slice none 0 0)
 refine ⟨_,bQ,?_⟩
 have e2:(V.aX lab (.slice none 0 0)).σ lab=some (.slice none 0 0):=by simp [aZ.aX]
 have oO:aG (V.aX lab (.slice none 0 0)) (cs.set i (.buf lab))=some xs:=by
  have gM:aG (V.aX lab (.slice none 0 0)) cs=some xs:=dC bQ.1 mJ
  obtain ⟨x,nX,Jp⟩:=dZ gM i _ hi
  simp only [den,zzI] at Jp
  exact pM (by rw [<- Jp];simp [den,e2]) cs xs i gM nX
 refine h.step (N:=fun k=>if k=lab then some (.eQ [] el) else if k=lb then some (.own (cs.set i (.buf lab)) ty) else none) bQ.1 (fun k C hk=>?_) (fun k C hk=>?_) (fun k C p hk hp=>?_) (fun k C k' C' p Au hk iA ho hp=>?_) (zzr _) (fun _ _ _=>rfl) rfl rfl rfl
 .simp only [eG,bL.eI,fT,List.cons_append,zzv] at hk
  by_cases k2:lb=k
  .subst k2
   rw [aH] at hk
   left
   simp only [if_neg (show ¬ lb=lab by omega),if_true]
   simpa using hk
  .rw [aD k2] at hk
   by_cases k3:lab=k
   .subst k3;rw [aH] at hk;left;simpa using hk
   .rw [aD k3] at hk
    right
    simp only [look] at hk
    exact ⟨by rw [if_neg (fun q=>k3 q.symm),if_neg (fun q=>k2 q.symm)],hk⟩
 .by_cases k1:k=lab
  .rw [if_pos k1] at hk
   cases hk
   subst k1
   exact ⟨[],rfl,_,e2,⟨by simp,.inl ⟨rfl,rfl⟩⟩⟩
  .rw [if_neg k1] at hk
   by_cases k3:k=lb
   .rw [if_pos k3] at hk
    cases hk
    subst k3
    exact ⟨xs,oO,b2,bQ.1.1 _ _ nD,VK⟩
   .rw [if_neg k3] at hk;cases hk
 .by_cases k1:k=lab
  .rw [if_pos k1] at hk
   cases hk
   subst k1
   simp [SB.aN,e2,Value.ownBlock] at hp
  .rw [if_neg k1] at hk
   by_cases k3:k=lb
   .rw [if_pos k3] at hk
    cases hk
    subst k3
    simp only [SB.aN,bQ.1.1 _ _ nD,zzm,zzI] at hp
    subst hp
    right;left
    exact ⟨k,_,hb,rfl,by simp [SB.aN,nD],by simp [if_neg k1]⟩
   .rw [if_neg k3] at hk;cases hk
 .intro Rr
  by_cases k1:k=lab
  .rw [if_pos k1] at hk
   cases hk
   subst k1
   simp [SB.aN,e2,Value.ownBlock] at hp
  .by_cases k2:k'=lab
   .rw [if_pos k2] at iA
    cases iA
    subst k2
    simp [SB.aN,e2,Value.ownBlock] at Rr
   .rw [if_neg k1] at hk
    rw [if_neg k2] at iA
    by_cases k3:k=lb
    .by_cases k4:k'=lb
     .omega
     .rw [if_neg k4] at iA;cases iA
    .rw [if_neg k3] at hk;cases hk
theorem aC.bBj (hT:aC w0 M V T w) (hf:V.fresh lab) {sz:Nat} {el:TypeId} {x:Value} (hx:den V (.raw (.slice none 0 0))=some x) :
 ∃ V',V.ext lab V'/\den V' (.buf lab)=some x/\aC w0 M V' (eG T lab { val:=.buf lab,new:=[.fX sz 0 el] }) w:=by
 simp only [den,zzI] at hx
 subst hx
 have bQ:=aZ.bX hf lab (zzr _) (by omega) (.slice none 0 0)
 have e2:(V.aX lab (.slice none 0 0)).σ lab=some (.slice none 0 0):=by simp [aZ.aX]
 refine ⟨V.aX lab (.slice none 0 0),bQ,by simp [den,e2],?_⟩
 refine hT.step (N:=fun m=>if m=lab then some (.fX sz 0 el) else none) bQ.1 (fun m C hm=>?_) (fun m C hm=>?_) (fun m C q hm hq=>?_) (fun m C m' C' q dG hm kL uB hq=>?_) (zzr _) (fun _ _ _=>rfl) rfl rfl rfl
 .unfold eG bL.eI at hm
  simp only [fT,zzv,look] at hm
  by_cases e:m=lab
  .subst e
   left
   simpa using hm
  .right
   refine ⟨if_neg e,?_⟩
   have:Nat.beq lab m=false:=by
    cases lR:Nat.beq lab m with
    | false=>rfl
    | true=>exact absurd (zzN lR).symm e
   simpa [this] using hm
 .split at hm
  .rename_i e
   subst e
   cases hm
   exact ⟨[],rfl,_,[],e2,⟨by simp,.inl ⟨rfl,rfl⟩⟩,fun q hq=>by cases hq⟩
  .cases hm
 .split at hm
  .rename_i e
   subst e
   cases hm
   simp [SB.aN,e2,Value.ownBlock] at hq
  .cases hm
 .split at hm
  .rename_i e
   subst e
   cases hm
   simp [SB.aN,e2,Value.ownBlock] at hq
  .cases hm
theorem aC.MY (hT:aC w0 M V T w) (hf:V.fresh lab) {n:Nat} {x:Value} {d:List Int} (hr:iP n x=some x) (hF:dM w0 M x d) :
 ∃ V',V.ext lab V'/\den V' (.eH lab n)=some x/\aC w0 M V' (eG T lab { val:=.eH lab n,new:=[.gL .u8 d] }) w:=by
 have bQ:=aZ.bX hf lab (zzr _) (by omega) x
 refine ⟨V.aX lab x,bQ,by simp [den,aZ.aX,hr],?_⟩
 refine hT.step (N:=fun m=>if m=lab then some (.gL .u8 d) else none) bQ.1 (fun m C hm=>?_) (fun m C hm=>?_) (fun m C q hm hq=>?_) (fun m C m' C' q dG hm kL uB _=>?_) (zzr _) (fun _ _ _=>rfl) rfl rfl rfl
 .unfold eG bL.eI at hm
  simp only [fT,zzv,look] at hm
  by_cases e:m=lab
  .subst e
   left
   simpa using hm
  .right
   refine ⟨if_neg e,?_⟩
   have:Nat.beq lab m=false:=by
    cases lR:Nat.beq lab m with
    | false=>rfl
    | true=>exact absurd (zzN lR).symm e
   simpa [this] using hm
 .split at hm
  .rename_i e
   subst e
   cases hm
   exact ⟨_,rfl,x,by simp [aZ.aX],(hF.gO (M':=fun _=>False) hT.frame fun _ h=>h.elim).1⟩
  .cases hm
 .split at hm
  .rename_i e
   subst e
   cases hm
   refine .inr (.inr ⟨rfl,fun l2 B2 UG tQ uB lR=>?_⟩)
   simp only [SB.aN,aZ.aX,if_pos,zza] at hq
   have h1:=hF.2 q hq
   rcases hT.perm l2 B2 q tQ uB lR with h2 | h2
   .omega
   .exact h1.2 h2
  .cases hm
 .split at hm
  .cases hm;cases uB
  .cases hm
theorem aC.aQw (hT:aC w0 M V T w) (hf:V.fresh lab) {n:Nat} {x:Value} {d:List Int} (hr:iP n x=some x) (hF:dM w0 M x d) :
 ∃ V',V.ext lab V'/\den V' (.eH lab n)=some x/\aC w0 M V' (eG T lab { val:=.eH lab n,new:=[.nU d] }) w:=by
 have bQ:=aZ.bX hf lab (zzr _) (by omega) x
 refine ⟨V.aX lab x,bQ,by simp [den,aZ.aX,hr],?_⟩
 refine hT.step (N:=fun m=>if m=lab then some (.nU d) else none) bQ.1 (fun m C hm=>?_) (fun m C hm=>?_) (fun m C q hm hq=>?_) (fun m C m' C' q dG hm kL uB _=>?_) (zzr _) (fun _ _ _=>rfl) rfl rfl rfl (fun m C hm=>?_)
 .unfold eG bL.eI at hm
  simp only [fT,zzv,look] at hm
  by_cases e:m=lab
  .subst e
   left
   simpa using hm
  .right
   refine ⟨if_neg e,?_⟩
   have:Nat.beq lab m=false:=by
    cases lR:Nat.beq lab m with
    | false=>rfl
    | true=>exact absurd (zzN lR).symm e
   simpa [this] using hm
 .split at hm
  .cases hm;exact ⟨[],rfl,trivial⟩
  .cases hm
 .split at hm
  .cases hm;cases hq
  .cases hm
 .split at hm
  .cases hm;cases uB
  .cases hm
 .split at hm
  .rename_i e
   subst e
   cases hm
   exact ⟨_,by simp [aZ.aX],hF⟩
  .cases hm
theorem aC.aVm (hT:aC w0 M V T w) (hf:V.fresh lab) {el:TypeId} {x:Value} (hx:den V (.raw (.slice none 0 0))=some x) :
 ∃ V',V.ext lab V'/\den V' (.buf lab)=some x/\aC w0 M V' (eG T lab { val:=.buf lab,new:=[.eQ [] el] }) w:=by
 simp only [den,zzI] at hx
 subst hx
 have bQ:=aZ.bX hf lab (zzr _) (by omega) (.slice none 0 0)
 refine ⟨V.aX lab (.slice none 0 0),bQ,by simp [den,aZ.aX],?_⟩
 refine hT.step (N:=fun m=>if m=lab then some (.eQ [] el) else none) bQ.1 (fun m C hm=>?_) (fun m C hm=>?_) (fun m C q hm hq=>?_) (fun m C m' C' q dG hm kL uB _=>?_) (zzr _) (fun _ _ _=>rfl) rfl rfl rfl (fun m C hm=>?_)
 .unfold eG bL.eI at hm
  simp only [fT,zzv] at hm
  by_cases e:m=lab
  .subst e
   left
   rw [aH] at hm
   rw [if_pos rfl];exact hm
  .right
   rw [aD (fun q=>e q.symm)] at hm
   exact ⟨if_neg e,hm⟩
 .split at hm
  .rename_i e
   subst e
   cases hm
   exact ⟨[],rfl,.slice none 0 0,by simp [aZ.aX],World.ownsRow_nil w 0 el 2⟩
  .cases hm
 .split at hm
  .rename_i e
   subst e
   cases hm
   simp [SB.aN,aZ.aX,Value.ownBlock] at hq
  .cases hm
 .split at hm
  .rename_i e
   split at kL
   .rename_i e'
    exact absurd (e.trans e'.symm) dG
   .cases kL
  .cases hm
 .split at hm
  .cases hm;trivial
  .cases hm
theorem aC.aVu (hT:aC w0 M V T w) (hf:V.fresh lab) {l l2 i:Nat} {cs:List SV} {ty el:TypeId} {xs:List (Int × Int)} (hl:T l=some (.own cs ty)) (hc:cs[i]?=some (.buf l2)) (tQ:T l2=some (.eQ xs el)) (cM:l<lab) (bHm:l2<lab) (v:SV) :
 ∃ V',V.ext lab V'/\aC w0 M V' (eG T lab { val:=v,new:=[.eQ xs el],wr:=[(l,.own (cs.set i (.buf lab)) ty),(l2,.gone)] }) w:=by
 obtain ⟨us,hu,b,hβ,hh⟩:=hT.ok l _ hl
 obtain ⟨ps,VF,u,hσ,bN⟩:=hT.ok l2 _ tQ
 cases VF
 have hu:aG V cs=some us:=hu
 have dG:l≠l2:=fun e=>by subst e;rw [hl] at tQ;cases tQ
 have bQ:=aZ.bX hf lab (zzr _) (by omega) u
 have e1:(V.aX lab u).σ lab=some u:=by simp [aZ.aX]
 have oO:aG (V.aX lab u) (cs.set i (.buf lab))=some us:=by
  have gM:aG (V.aX lab u) cs=some us:=dC bQ.1 hu
  obtain ⟨x,nX,Jp⟩:=dZ gM i _ hc
  simp only [den,bQ.1.2 _ _ hσ,zzI] at Jp
  exact pM (by rw [<- Jp];simp [den,e1]) cs us i gM nX
 refine ⟨_,bQ,?_⟩
 refine hT.step (N:=fun m=>if m=lab then some (.eQ xs el) else if m=l then some (.own (cs.set i (.buf lab)) ty) else if m=l2 then some .gone else none) bQ.1 (fun m C hm=>?_) (fun m C hm=>?_) (fun m C q hm hq=>?_) (fun m C m' C' q Au hm kL uB hq=>?_) (zzr _) (fun _ _ _=>rfl) rfl rfl rfl (fun m C hm=>?_)
 .unfold eG bL.eI at hm
  simp only [fT,List.cons_append,zzv] at hm
  by_cases k1:m=l
  .subst k1
   left
   rw [aH] at hm
   rw [if_neg (by omega),if_pos rfl];exact hm
  .rw [aD (fun q=>k1 q.symm)] at hm
   by_cases k2:m=l2
   .subst k2
    left
    rw [aH] at hm
    rw [if_neg (by omega),if_neg k1,if_pos rfl];exact hm
   .rw [aD (fun q=>k2 q.symm)] at hm
    by_cases k3:m=lab
    .subst k3
     left
     rw [aH] at hm
     rw [if_pos rfl];exact hm
    .right
     rw [aD (fun q=>k3 q.symm)] at hm
     exact ⟨by rw [if_neg k3,if_neg k1,if_neg k2],hm⟩
 .split at hm
  .rename_i e
   subst e
   cases hm
   exact ⟨_,rfl,u,e1,bN⟩
  .split at hm
   .rename_i e
    subst e
    cases hm
    exact ⟨us,oO,b,bQ.1.1 _ _ hβ,hh⟩
   .split at hm
    .cases hm;exact ⟨[],rfl,trivial⟩
    .cases hm
 .right;left
  split at hm
  .rename_i e
   subst e
   cases hm
   simp only [SB.aN,e1,zza] at hq
   exact ⟨l2,_,tQ,rfl,by simp [SB.aN,hσ,hq],by rw [if_neg (by omega),if_neg (fun q=>dG q.symm),if_pos rfl];simp⟩
  .split at hm
   .rename_i e0 e
    subst e
    cases hm
    simp only [SB.aN,bQ.1.1 _ _ hβ,zzm,zzI] at hq
    exact ⟨m,_,hl,rfl,by simp [SB.aN,hβ,hq],by rw [if_neg e0,if_pos rfl];simp⟩
   .split at hm
    .cases hm;cases hq
    .cases hm
 .intro hq'
  have k1:∀ q,(SB.eQ xs el).aN (V.aX lab u) lab=some q->(SB.eQ xs el).aN V l2=some q:=fun q h=>by
   simp only [SB.aN,e1,zza] at h;simp [SB.aN,hσ,h]
  have k2:∀ q,(SB.own (cs.set i (.buf lab)) ty).aN (V.aX lab u) l=some q->(SB.own cs ty).aN V l=some q:=fun q h=>by
   simp only [SB.aN,bQ.1.1 _ _ hβ,zzm,zzI] at h;simp [SB.aN,hβ,h]
  split at hm
  .rename_i e
   subst e
   cases hm
   split at kL
   .rename_i e';exact Au e'.symm
   .split at kL
    .rename_i e';subst e';cases kL
     exact hT.jX l2 _ m' _ q (fun e=>dG e.symm) tQ hl rfl (k1 q hq) (k2 q hq')
    .split at kL
     .cases kL;cases hq'
     .cases kL
  .split at hm
   .rename_i e0 e
    subst e
    cases hm
    split at kL
    .rename_i e';subst e';cases kL
     exact hT.jX m _ l2 _ q dG hl tQ rfl (k2 q hq) (k1 q hq')
    .split at kL
     .rename_i e';exact Au e'.symm
     .split at kL
      .cases kL;cases hq'
      .cases kL
   .split at hm
    .cases hm;cases uB
    .cases hm
 .split at hm
  .cases hm;trivial
  .split at hm
   .cases hm;trivial
   .split at hm
    .cases hm;trivial
    .cases hm
theorem aC.aVn (hT:aC w0 M V T w) (hf:V.fresh lab) {el:TypeId} {x:Value} (hx:den V (.raw (.slice none 0 0))=some x) :
 ∃ V',V.ext lab V'/\den V' (.tZ lab 0)=some x/\aC w0 M V' (eG T lab { val:=.tZ lab 0,new:=[.fM [] el] }) w:=by
 simp only [den,zzI] at hx
 subst hx
 have bQ:=aZ.bX hf lab (zzr _) (by omega) (.tuple [.slice none 0 0].toArray)
 refine ⟨V.aX lab (.tuple [.slice none 0 0].toArray),bQ,by simp [den,aZ.aX,Ao,iP],?_⟩
 refine hT.step (N:=fun m=>if m=lab then some (.fM [] el) else none) bQ.1 (fun m C hm=>?_) (fun m C hm=>?_) (fun m C q hm hq=>?_) (fun m C m' C' q dG hm kL uB _=>?_) (zzr _) (fun _ _ _=>rfl) rfl rfl rfl (fun m C hm=>?_)
 .unfold eG bL.eI at hm
  simp only [fT,zzv,look] at hm
  by_cases e:m=lab
  .subst e
   left
   simpa using hm
  .right
   refine ⟨if_neg e,?_⟩
   have:Nat.beq lab m=false:=by
    cases lR:Nat.beq lab m with
    | false=>rfl
    | true=>exact absurd (zzN lR).symm e
   simpa [this] using hm
 .split at hm
  .rename_i e
   subst e
   cases hm
   exact ⟨[],rfl,.slice none 0 0,[],by simp [aZ.aX],World.ownsRow_nil w 0 el 1⟩
  .cases hm
 .split at hm
  .rename_i e
   subst e
   cases hm
   simp [SB.aN,aZ.aX,uI,Value.ownBlock] at hq
  .cases hm
 .split at hm
  .rename_i e
   split at kL
   .rename_i e'
    exact absurd (e.trans e'.symm) dG
   .cases kL
  .cases hm
 .split at hm
  .rename_i e
   subst e
   cases hm
   exact ⟨.slice none 0 0,[],by simp [aZ.aX],rfl,fun i u d hu=>by simp at hu⟩
  .cases hm
end
inductive Cl where
 | cell (t i m:Nat)
 | tmp (t m:Nat)
 | buf (t:Nat) (k:IntKind)
 | nil (t i:Nat) (k:IntKind) (el:TypeId)
 | ali (t:Nat)
 | alf (t:Nat)
 | alo (t:Nat)
 | aIu (t:Nat) (el:TypeId)
 | aIr (t i sz:Nat) (el:TypeId)
 | aIs (t sz:Nat) (el:TypeId)
 | aIt (t:Nat) (el:TypeId)
 | mvb (l i:Nat)
 | IW (t i:Nat) (el:TypeId)
noncomputable def dQ (F0 N:Nat) (B:bA) (c:Cl) (s:St):Option St:=match c with
 | .cell t i m=>match s.g.get t with
   | some (.ptr lb true 0)=>match s.T B lb with
     | some (.own cs ty)=>match cs[i]? with
       | some (.aJ l true 0 n cap)=>match s.T B l with
         | some (.own cells el)=>match Nat.beq cells.length cap&&(Nat.ble m cap&&(!Nat.beq l lb&&Nat.ble cap 1000000)) with
           | true=>s.step F0 N none { val:=.raw undef,new:=[.row 1 (cells.take m) el],wr:=[(l,.gone),(lb,.own (cs.set i (.cQ s.nx 0 n 0)) ty)] } s.nx (s.nx+8)
           | false=>none
         | _=>none
       | some (.raw (.slice none 0 0))=>some s
       | _=>none
     | _=>none
   | _=>none
 | .tmp t m=>match s.g.get t with
   | some (.aJ l true 0 n cap)=>match s.T B l with
     | some (.own cells el)=>match Nat.beq cells.length cap&&(Nat.ble m cap&&Nat.ble cap 1000000) with
       | true=>s.step F0 N (some t) { val:=.cQ s.nx 0 n 0,new:=[.row 1 (cells.take m) el],wr:=[(l,.gone)] } s.nx (s.nx+8)
       | false=>none
     | _=>none
   | _=>none
 | .buf t k=>match s.g.get t with
   | some (.aJ l true 0 n cap)=>match s.T B l with
     | some (.own cells el)=>match Nat.beq cells.length cap&&(Nat.ble n cap&&(Nat.ble cap 1000000&&(dA k cells).isSome)),dA k (cells.take n) with
       | true,some ns=>s.step F0 N (some t) { val:=.buf s.nx,new:=[.cS k ns el],wr:=[(l,.gone)] } s.nx (s.nx+8)
       | _,_=>none
     | _=>none
   | _=>none
 | .nil t i k el=>match s.g.get t with
   | some (.ptr lb true 0)=>match s.T B lb with
     | some (.own cs ty)=>match cs[i]? with
       | some (.raw (.slice none 0 0))=>s.step F0 N none { val:=.raw undef,new:=[.cS k [] el],wr:=[(lb,.own (cs.set i (.buf s.nx)) ty)] } s.nx (s.nx+8)
       | some (.buf _)=>some s
       | _=>none
     | _=>none
   | _=>none
 | .ali t=>match s.g.get t with
   | some (.eH l n)=>match s.T B l with
     | some (.gL k xs)=>s.step F0 N (some t) { val:=.eH s.nx n,new:=[.gL k xs] } s.nx (s.nx+8)
     | _=>none
   | _=>none
 | .alf t=>match s.g.get t with
   | some (.xZ l i n)=>match s.T B l with
     | some b=>match vP b with
       | some ds=>s.step F0 N (some t) { val:=.eH s.nx n,new:=[.gL .u8 (ds.getD i [])] } s.nx (s.nx+8)
       | none=>none
     | none=>none
   | some (.eH l n)=>match s.T B l with
     | some (.nU d)=>s.step F0 N (some t) { val:=.eH s.nx n,new:=[.gL .u8 d] } s.nx (s.nx+8)
     | _=>none
   | _=>none
 | .alo t=>match s.g.get t with
   | some (.eH l n)=>match s.T B l with
     | some (.nU d)=>s.step F0 N (some t) { val:=.eH s.nx n,new:=[.nU d] } s.nx (s.nx+8)
     | _=>none
   | _=>none
 | .aIu t el=>match s.g.get t with
   | some (.raw (.slice none 0 0))=>s.step F0 N (some t) { val:=.tZ s.nx 0,new:=[.fM [] el] } s.nx (s.nx+8)
   | some (.tZ _ _)=>some s
   | _=>none
 | .aIr t i sz el=>match s.g.get t with
   | some (.ptr lb true 0)=>match s.T B lb with
     | some (.own cs ty)=>match cs[i]? with
       | some (.raw (.slice none 0 0))=>s.step F0 N none { val:=.raw undef,new:=[.fX sz 0 el],wr:=[(lb,.own (cs.set i (.buf s.nx)) ty)] } s.nx (s.nx+8)
       | some (.buf _)=>some s
       | _=>none
     | _=>none
   | _=>none
 | .aIs t sz el=>match s.g.get t with
   | some (.raw (.slice none 0 0))=>s.step F0 N (some t) { val:=.buf s.nx,new:=[.fX sz 0 el] } s.nx (s.nx+8)
   | some (.buf _)=>some s
   | _=>none
 | .aIt t el=>match s.g.get t with
   | some (.raw (.slice none 0 0))=>s.step F0 N (some t) { val:=.buf s.nx,new:=[.eQ [] el] } s.nx (s.nx+8)
   | some (.buf _)=>some s
   | _=>none
 | .mvb l i=>match s.T B l with
   | some (.own cs ty)=>match cs[i]? with
     | some (.buf l2)=>match s.T B l2,Nat.blt l s.nx&&Nat.blt l2 s.nx with
       | some (.eQ xs el),true=>s.step F0 N none { val:=.raw undef,new:=[.eQ xs el],wr:=[(l,.own (cs.set i (.buf s.nx)) ty),(l2,.gone)] } s.nx (s.nx+8)
       | _,_=>none
     | _=>none
   | _=>none
 | .IW t i el=>match s.g.get t with
   | some (.ptr lb true 0)=>match s.T B lb with
     | some (.own cs ty)=>match cs[i]? with
       | some (.raw (.slice none 0 0))=>s.step F0 N none { val:=.raw undef,new:=[.eQ [] el],wr:=[(lb,.own (cs.set i (.buf s.nx)) ty)] } s.nx (s.nx+8)
       | some (.buf _)=>some s
       | _=>none
     | _=>none
   | _=>none
noncomputable def kX (F0 N:Nat) (B:bA):List Cl->St->Option St
 | [],s=>some s
 | c::r,s=>match dQ F0 N B c s with
   | some s=>kX F0 N B r s
   | none=>none
section
variable {P:Program} {Γ:Env} {w0:World} {M:Nat->Prop} {B:bA} {N F0:Nat} {V0:aZ}
theorem Inv.dQ {c:Cl} {s s':St} (h:dQ F0 N B c s=some s') {V:aZ} {a:Act} {w:World} (hi:Inv P Γ w0 M B N F0 V0 s V a w):(∃ V',Inv P Γ w0 M B N F0 V0 s' V' a w)/\s'.ob=s.ob:=by
 cases c with
 | cell t i m=>
   simp only [Sx.dQ] at h
   split at h
   case h_2=>cases h
   rename_i lb _
   split at h
   case h_2=>cases h
   rename_i cs ty hb
   split at h
   case h_3=>cases h
   .rename_i l n cap hc
    split at h
    case h_2=>cases h
    rename_i cells el hl
    split at h
    case h_2=>cases h
    rename_i iE
    simp only [zzn,Bool.not_eq_true'] at iE
    obtain ⟨k1,k2,k3,k4⟩:=iE
    obtain ⟨V',hV,hT⟩:=aC.close hi.eI hi.top.fresh hi.hi hl (zzN k1) (zzL k2) (zzL k4) hb hc (fun e=>by subst e;rw [Nat.beq_refl] at k3;cases k3) (.raw undef)
    refine ⟨⟨V',?_⟩,(St.cR B h).2.2.1⟩
    exact hi.step (x:=undef) h (zzr _) (zzr _) hV (fun h=>by cases h) hT
   .cases h;exact ⟨⟨V,hi⟩,rfl⟩
 | tmp t m=>
   simp only [Sx.dQ] at h
   split at h
   case h_2=>cases h
   rename_i l n cap ht
   split at h
   case h_2=>cases h
   rename_i cells el hl
   split at h
   case h_2=>cases h
   rename_i iE
   simp only [zzn] at iE
   obtain ⟨k1,k2,k4⟩:=iE
   obtain ⟨V',hV,hx,hT⟩:=aC.aQk hi.eI hi.top.fresh hi.hi hl (zzN k1) (zzL k2) (zzL k4) (hi.tmp t _ ht)
   have:=hi.step (x:=a.eval (.tmp t)) h (zzr _) (zzr _) hV (fun _=>hx) hT
   rw [Act.iV] at this
   exact ⟨⟨V',this⟩,(St.cR B h).2.2.1⟩
 | buf t k=>
   simp only [Sx.dQ] at h
   split at h
   case h_2=>cases h
   rename_i l n cap ht
   split at h
   case h_2=>cases h
   rename_i cells el hl
   split at h
   case h_2=>cases h
   rename_i ns iE hk
   simp only [zzn] at iE
   obtain ⟨k1,k2,k4,k5⟩:=iE
   obtain ⟨V',hV,hx,hT⟩:=aC.aQl hi.eI hi.top.fresh hi.hi hl (zzN k1) (zzL k2) (zzL k4) hk k5 (hi.tmp t _ ht)
   have:=hi.step (x:=a.eval (.tmp t)) h (zzr _) (zzr _) hV (fun _=>hx) hT
   rw [Act.iV] at this
   exact ⟨⟨V',this⟩,(St.cR B h).2.2.1⟩
 | nil t i k el=>
   simp only [Sx.dQ] at h
   split at h
   case h_2=>cases h
   rename_i lb _
   split at h
   case h_2=>cases h
   rename_i cs ty hb
   split at h
   case h_3=>cases h
   .rename_i hc
    obtain ⟨V',hV,hT⟩:=aC.bBk (k0:=k) (el:=el) hi.eI hi.top.fresh hi.hi hb hc (.raw undef)
    exact ⟨⟨V',hi.step (x:=undef) h (zzr _) (zzr _) hV (fun h=>by cases h) hT⟩,(St.cR B h).2.2.1⟩
   .cases h;exact ⟨⟨V,hi⟩,rfl⟩
 | ali t=>
   simp only [Sx.dQ] at h
   split at h
   case h_2=>cases h
   rename_i l n ht
   split at h
   case h_2=>cases h
   rename_i k xs hl
   obtain ⟨V',hV,hx,hT⟩:=aC.aQv hi.eI hi.top.fresh hl (hi.tmp t _ ht)
   have:=hi.step (x:=a.eval (.tmp t)) h (zzr _) (zzr _) hV (fun _=>hx) hT
   rw [Act.iV] at this
   exact ⟨⟨V',this⟩,(St.cR B h).2.2.1⟩
 | alf t=>
   simp only [Sx.dQ] at h
   split at h
   case h_3=>cases h
   .rename_i l i n ht
    split at h
    case h_2=>cases h
    rename_i b hb
    split at h
    case h_2=>cases h
    rename_i ds hd
    obtain ⟨_,_,_,_,hF,hr⟩:=Ti hi.eI (hi.tmp t _ ht) hb hd
    obtain ⟨V',hV,hx,hT⟩:=aC.MY hi.eI hi.top.fresh hr hF
    have:=hi.step (x:=a.eval (.tmp t)) h (zzr _) (zzr _) hV (fun _=>hx) hT
    rw [Act.iV] at this
    exact ⟨⟨V',this⟩,(St.cR B h).2.2.1⟩
   .rename_i l n ht
    split at h
    case h_2=>cases h
    rename_i d hl
    obtain ⟨u,hσ,hF⟩:=hi.eI.tV l _ hl
    have hd:=hi.tmp t _ ht
    simp only [den,hσ,zza] at hd
    have e:=(dB hd).1
    rw [e] at hd
    obtain ⟨V',hV,hx,hT⟩:=aC.MY hi.eI hi.top.fresh hd hF
    rw [<- e] at hx
    have:=hi.step (x:=a.eval (.tmp t)) h (zzr _) (zzr _) hV (fun _=>hx) hT
    rw [Act.iV] at this
    exact ⟨⟨V',this⟩,(St.cR B h).2.2.1⟩
 | alo t=>
   simp only [Sx.dQ] at h
   split at h
   case h_2=>cases h
   rename_i l n ht
   split at h
   case h_2=>cases h
   rename_i d hl
   obtain ⟨u,hσ,hF⟩:=hi.eI.tV l _ hl
   have hd:=hi.tmp t _ ht
   simp only [den,hσ,zza] at hd
   have e:=(dB hd).1
   rw [e] at hd
   obtain ⟨V',hV,hx,hT⟩:=aC.aQw hi.eI hi.top.fresh hd hF
   rw [<- e] at hx
   have:=hi.step (x:=a.eval (.tmp t)) h (zzr _) (zzr _) hV (fun _=>hx) hT
   rw [Act.iV] at this
   exact ⟨⟨V',this⟩,(St.cR B h).2.2.1⟩
 | aIu t el=>
   simp only [Sx.dQ] at h
   split at h
   case h_3=>cases h
   .rename_i ht
    obtain ⟨V',hV,hx,hT⟩:=aC.aVn (el:=el) hi.eI hi.top.fresh (hi.tmp t _ ht)
    have:=hi.step (x:=a.eval (.tmp t)) h (zzr _) (zzr _) hV (fun _=>hx) hT
    rw [Act.iV] at this
    exact ⟨⟨V',this⟩,(St.cR B h).2.2.1⟩
   .cases h;exact ⟨⟨V,hi⟩,rfl⟩
 | aIr t i sz el=>
   simp only [Sx.dQ] at h
   split at h
   case h_2=>cases h
   rename_i lb _
   split at h
   case h_2=>cases h
   rename_i cs ty hb
   split at h
   case h_3=>cases h
   .rename_i hc
    obtain ⟨V',hV,hT⟩:=aC.aIv (sz:=sz) (el:=el) hi.eI hi.top.fresh hi.hi hb hc (.raw undef)
    exact ⟨⟨V',hi.step (x:=undef) h (zzr _) (zzr _) hV (fun h=>by cases h) hT⟩,(St.cR B h).2.2.1⟩
   .cases h;exact ⟨⟨V,hi⟩,rfl⟩
 | aIs t sz el=>
   simp only [Sx.dQ] at h
   split at h
   case h_3=>cases h
   .rename_i ht
    obtain ⟨V',hV,hx,hT⟩:=aC.bBj (sz:=sz) (el:=el) hi.eI hi.top.fresh (hi.tmp t _ ht)
    have:=hi.step (x:=a.eval (.tmp t)) h (zzr _) (zzr _) hV (fun _=>hx) hT
    rw [Act.iV] at this
    exact ⟨⟨V',this⟩,(St.cR B h).2.2.1⟩
   .cases h;exact ⟨⟨V,hi⟩,rfl⟩
 | aIt t el=>
   simp only [Sx.dQ] at h
   split at h
   case h_3=>cases h
   .rename_i ht
    obtain ⟨V',hV,hx,hT⟩:=aC.aVm (el:=el) hi.eI hi.top.fresh (hi.tmp t _ ht)
    have:=hi.step (x:=a.eval (.tmp t)) h (zzr _) (zzr _) hV (fun _=>hx) hT
    rw [Act.iV] at this
    exact ⟨⟨V',this⟩,(St.cR B h).2.2.1⟩
   .cases h;exact ⟨⟨V,hi⟩,rfl⟩
 | mvb l i=>
   simp only [Sx.dQ] at h
   split at h
   case h_2=>cases h
   rename_i cs ty hl
   split at h
   case h_2=>cases h
   rename_i l2 hc
   split at h
   case h_2=>cases h
   rename_i xs el tQ cM
   simp only [zzn,Nat.blt_eq] at cM
   obtain ⟨V',hV,hT⟩:=aC.aVu hi.eI hi.top.fresh hl hc tQ cM.1 cM.2 (.raw undef)
   exact ⟨⟨V',hi.step (x:=undef) h (zzr _) (zzr _) hV (fun h=>by cases h) hT⟩,(St.cR B h).2.2.1⟩
 | IW t i el=>
   simp only [Sx.dQ] at h
   split at h
   case h_2=>cases h
   rename_i lb _
   split at h
   case h_2=>cases h
   rename_i cs ty hb
   split at h
   case h_3=>cases h
   .rename_i hc
    obtain ⟨V',hV,hT⟩:=aC.aVo (el:=el) hi.eI hi.top.fresh hi.hi hb hc (.raw undef)
    exact ⟨⟨V',hi.step (x:=undef) h (zzr _) (zzr _) hV (fun h=>by cases h) hT⟩,(St.cR B h).2.2.1⟩
   .cases h;exact ⟨⟨V,hi⟩,rfl⟩
theorem Inv.kX:∀ {cl:List Cl} {s s':St},kX F0 N B cl s=some s'->∀ {V:aZ} {a:Act} {w:World},Inv P Γ w0 M B N F0 V0 s V a w->(∃ V',Inv P Γ w0 M B N F0 V0 s' V' a w)
 | [],s,s',h,V,a,w,hi=>by simp only [Sx.kX,zzI] at h;subst h;exact ⟨V,hi⟩
 | c::r,s,s',h,V,a,w,hi=>by
   simp only [Sx.kX] at h
   split at h
   .rename_i s1 h1
    obtain ⟨⟨V1,Bh⟩,e⟩:=hi.dQ h1
    exact Inv.kX h Bh
   .cases h
theorem EJ {c:Cl} {s s':St} (h:dQ F0 N B c s=some s'):s'.ob=s.ob:=by
 cases c with
 | cell t i m=>
   simp only [Sx.dQ] at h
   split at h
   case h_2=>cases h
   split at h
   case h_2=>cases h
   split at h
   case h_3=>cases h
   .split at h
    case h_2=>cases h
    split at h
    case h_2=>cases h
    exact (St.cR B h).2.2.1
   .cases h;rfl
 | tmp t m=>
   simp only [Sx.dQ] at h
   split at h
   case h_2=>cases h
   split at h
   case h_2=>cases h
   split at h
   case h_2=>cases h
   exact (St.cR B h).2.2.1
 | buf t k=>
   simp only [Sx.dQ] at h
   split at h
   case h_2=>cases h
   split at h
   case h_2=>cases h
   split at h
   case h_2=>cases h
   exact (St.cR B h).2.2.1
 | nil t i k el=>
   simp only [Sx.dQ] at h
   split at h
   case h_2=>cases h
   split at h
   case h_2=>cases h
   split at h
   case h_3=>cases h
   .exact (St.cR B h).2.2.1
   .cases h;rfl
 | ali t=>
   simp only [Sx.dQ] at h
   split at h
   case h_2=>cases h
   split at h
   case h_2=>cases h
   exact (St.cR B h).2.2.1
 | alf t=>
   simp only [Sx.dQ] at h
   split at h
   case h_3=>cases h
   .split at h
    case h_2=>cases h
    split at h
    case h_2=>cases h
    exact (St.cR B h).2.2.1
   .split at h
    case h_2=>cases h
    exact (St.cR B h).2.2.1
 | alo t=>
   simp only [Sx.dQ] at h
   split at h
   case h_2=>cases h
   split at h
   case h_2=>cases h
   exact (St.cR B h).2.2.1
 | aIu t el=>
   simp only [Sx.dQ] at h
   split at h
   case h_3=>cases h
   .exact (St.cR B h).2.2.1
   .cases h;rfl
 | aIr t i sz el=>
   simp only [Sx.dQ] at h
   split at h
   case h_2=>cases h
   split at h
   case h_2=>cases h
   split at h
   case h_3=>cases h
   .exact (St.cR B h).2.2.1
   .cases h;rfl
 | aIs t sz el=>
   simp only [Sx.dQ] at h
   split at h
   case h_3=>cases h
   .exact (St.cR B h).2.2.1
   .cases h;rfl
 | aIt t el=>
   simp only [Sx.dQ] at h
   split at h
   case h_3=>cases h
   .exact (St.cR B h).2.2.1
   .cases h;rfl
 | mvb l i=>
   simp only [Sx.dQ] at h
   split at h
   case h_2=>cases h
   split at h
   case h_2=>cases h
   split at h
   case h_2=>cases h
   exact (St.cR B h).2.2.1
 | IW t i el=>
   simp only [Sx.dQ] at h
   split at h
   case h_2=>cases h
   split at h
   case h_2=>cases h
   split at h
   case h_3=>cases h
   .exact (St.cR B h).2.2.1
   .cases h;rfl
theorem zG:∀ {cl:List Cl} {s s':St},kX F0 N B cl s=some s'->s'.ob=s.ob
 | [],s,s',h=>by simp only [Sx.kX,zzI] at h;subst h;rfl
 | c::r,s,s',h=>by
   simp only [Sx.kX] at h
   split at h
   .rename_i s1 h1
    rw [zG h,EJ h1]
   .cases h
noncomputable def pY (Γ:Env) (T:bA) (lab F:Nat) (fn:Func) (cl:List Cl) (r:Option oY):Option bL:=match r with
 | some r=>match r.cf,r.fr with
   | .at x,[]=>match kX F fn.ntmps (aY F T) cl r.st with
     | some s=>Gz Γ T lab F fn x s
     | none=>none
   | _,_=>none
 | none=>none
theorem G.oQ (aR:cC P Γ) (aU:cK P Γ) (jO:P.follows .mixedOrders=true) {T:bA} {lab:Nat} {fn:Func} {e e':bL} {cl:List Cl} {stops:List Nat} {lf n:Nat} {cf:Cf} {K:List Fr} {s:St} (hs:List Bool) {Q:Exit->Act->World->Prop}
 (H:∀ x s e',Gz Γ T lab F0 fn x s=some e'->(∀ q∈e'.bK,q)->e'.val=e.val->e'.new=e.new->e'.wr=e.wr->G P Γ w0 M (aY F0 T) fn.ntmps F0 V0 (.at x) [] s Q)
 (h:pY Γ T lab F0 fn cl (gV Γ (aY F0 T) F0 fn.ntmps stops lf n cf K (s.hint hs))=some e') (hp:∀ q∈e'.bK,q) (h1:e'.val=e.val) (h2:e'.new=e.new) (h3:e'.wr=e.wr) :
 G P Γ w0 M (aY F0 T) fn.ntmps F0 V0 cf K s Q:=by
 unfold pY at h
 split at h
 case h_2=>cases h
 rename_i r hr
 split at h
 case h_2=>cases h
 rename_i x hx hf
 split at h
 case h_2=>cases h
 rename_i s1 Gk
 have dS:G P Γ w0 M (aY F0 T) fn.ntmps F0 V0 cf K (s.hint hs) Q:=by
  refine G.run aR aU jO hr (fun q hq=>hp q (Zt h q (by rw [zG Gk];exact hq))) ?_
  rw [hx,hf]
  intro V a w hi
  obtain ⟨V',fW⟩:=hi.kX Gk
  exact H x s1 e' h hp h1 h2 h3 V' a w fW
 intro V a w hi
 exact dS V a w (hi.hints s.ob hs)
noncomputable def cW (F0 N:Nat) (B:bA) (cl:List Cl) (gs:List (Nat × SV)) (tb:List (Nat × SB)) (nx:Nat) (ws:List Nat) (df:List SV) (r:Option oY):Option (Cf × List Fr × List Prop):=match r with
 | some r=>match kX F0 N B cl r.st with
   | some s=>Ah F0 B [] gs tb nx ws df (some ⟨r.cf,r.fr,s⟩)
   | none=>none
 | none=>none
theorem G.cW (aR:cC P Γ) (aU:cK P Γ) (jO:P.follows .mixedOrders=true) (hb:pZ Γ B F0 V0) {stops:List Nat} {lf n:Nat} {cf FA:Cf} {K K':List Fr} {s:St} (hs:List Bool) {cl:List Cl} {gs:List (Nat × SV)} {tb:List (Nat × SB)} {nx:Nat} {ws:List Nat} {df:List SV} {ps:List Prop} {Q:Exit->Act->World->Prop}
 (h:cW F0 N B cl gs tb nx ws df (gV Γ B F0 N stops lf n cf K (s.hint hs))=some (FA,K',ps)) (hp:∀ q∈ps,q) (hG:G P Γ w0 M B N F0 V0 FA K' (bM gs tb nx ws df) Q):G P Γ w0 M B N F0 V0 cf K s Q:=by
 unfold Sx.cW at h
 split at h
 case h_2=>cases h
 rename_i r hr
 split at h
 case h_2=>cases h
 rename_i s1 h1
 have ob:=zG h1
 have h0:Sx.Ah F0 B [] gs tb nx ws df (gV Γ B F0 N stops lf 0 r.cf r.fr (s1.hint s1.hs))=some (FA,K',ps):=h
 have dS:G P Γ w0 M B N F0 V0 cf K (s.hint hs) Q:=by
  refine G.run aR aU jO hr (fun q hq=>?_) ?_
  .refine hp q ?_
   have hq:q∈s1.ob:=by rw [ob];exact hq
   unfold Sx.Ah at h
   simp only at h
   unfold Sx.toN at h
   simp only [pH] at h
   unfold TM at h
   simp only at h
   split at h
   case h_2=>cases h
   split at h
   case h_2=>cases h
   cases h
   exact List.mem_append_left _ hq
  .intro V a w hi
   obtain ⟨V',fW⟩:=hi.kX h1
   exact G.Ah aR aU jO hb s1.hs h0 hp hG V' a w fW
 intro V a w hi
 exact dS V a w (hi.hints s.ob hs)
theorem G.kW (aR:cC P Γ) (aU:cK P Γ) (jO:P.follows .mixedOrders=true) (hb:pZ Γ B F0 V0) {stops:List Nat} {lf n:Nat} {cf:Cf} {K1 K:List Fr} {s:St} (hs:List Bool) {cl:List Cl} {gs:List (Nat × SV)} {tb:List (Nat × SB)} {nx:Nat} {ws:List Nat} {df:List SV} {ps:List Prop} {Q:Exit->Act->World->Prop} {S:Nat->St->Prop} {r:Nat}
 (h:Sx.cW F0 N B cl gs tb nx ws df (gV Γ B F0 N stops lf n cf K1 (s.hint hs))=some (.at .normal,[],ps)) (hp:∀ q∈ps,q) (r':Nat) (cM:r'<r) (hS:S r' (bM gs tb nx ws df)) :
 G P Γ w0 M B N F0 V0 cf K1 s (Exit.then (fun a w=>∃ r',r'<r/\∃ s',S r' s'/\∃ V,Inv P Γ w0 M B N F0 V0 s' V a w) (KQ P K Q)):=
 G.cW aR aU jO hb hs h hp (G.again fun V _ _ hi=>⟨r',cM,_,hS,V,hi⟩)
end
theorem aE.bF {P:Program} {Γ:Env} {f:FuncId} {vs:List SV} {T:bA} {lab F:Nat} {e:bL} (h:aE P Γ f vs T lab F e) (l:Nat) (B:SB) (hT:T l=some B) (hl:l<lab) :
 aE P Γ f vs T lab F { e with wr:=e.wr++[(l,B)] }:=by
 intro w0 M V T2 w xs aK Ke hg hf hF hx o a K Q hK
 refine h w0 M V T2 w xs aK Ke hg hf hF hx o a K Q fun V' x w' h1 h2 h3=>hK V' x w' h1 h2 ?_
 have:eG T2 lab { e with wr:=e.wr++[(l,B)] }=eG T2 lab e:=by
  funext k
  simp only [eG,bL.eI,cD,List.append_assoc]
  cases hk:look k e.wr with
  | some b=>rfl
  | none=>
    simp only
    by_cases e1:l=k
    .subst e1
     rw [aH]
     simp only
     rw [fL,if_neg (by omega)]
     exact (aK l B hT).symm
    .rw [aD e1]
     simp only [look]
 rw [this]
 exact h3
section
variable {w0 w:World} {M:Nat->Prop} {V:aZ} {T:bA} {lab:Nat}
theorem zF (V:aZ) (k:IntKind):∀ xs:List Int,aG V (xs.map (SV.int false k))=some (xs.map (Value.int k))
 | []=>rfl
 | x::xs=>by simp [aG,den,zF V k xs]
theorem aC.opened (h:aC w0 M V T w) (hf:V.fresh lab) (kM:∀ k,lab<=k->T k=none) {l:Nat} {k:IntKind} {xs:List Int} {el:TypeId} (hl:T l=some (.cS k xs el)) (uD:0<xs.length) {lb:Nat} {cs:List SV} {ty:TypeId} {i:Nat}
 (hb:T lb=some (.own cs ty)) (hi:cs[i]?=some (.buf l)) (dG:l≠lb) (v:SV) :
 ∃ V',V.ext lab V'/\aC w0 M V' (eG T lab { val:=v,new:=[.row 1 (xs.map (SV.int false k)) el],wr:=[(l,.gone),(lb,.own (cs.set i (.cQ lab 0 xs.length 0)) ty)] }) w:=by
 obtain ⟨us,pU,u,hσ,bN⟩:=h.ok l _ hl
 obtain ⟨ys,rK,b2,nD,VK⟩:=h.ok lb _ hb
 cases pU
 rcases bN.1.2 with ⟨_,h0⟩ | ⟨b,cap,cur,rfl,_,hh,hle,rC,mK,cT⟩
 .omega
 have cM:l<lab:=Nat.lt_of_not_le fun q=>by rw [kM l q] at hl;cases hl
 have XF:lb<lab:=Nat.lt_of_not_le fun q=>by rw [kM lb q] at hb;cases hb
 have bQ:V.ext lab ((V.put lab (b,0)).aX lab (.int .i64 (cap:Nat))):=by
  have h1:=aZ.kG hf lab (zzr _) (by omega) (b,0)
  refine ⟨⟨fun k p hp=>h1.1.1 k p hp,fun k p hp=>?_⟩,fun k hk=>⟨(h1.2 k hk).1,?_⟩⟩
  .simp only [aZ.aX]
   by_cases e:k=lab
   .subst e;rw [(hf k (zzr _) (by omega)).2] at hp;cases hp
   .rw [if_neg e];exact hp
  .simp only [aZ.aX]
   rw [if_neg (by omega)]
   rfl
 refine ⟨_,bQ,?_⟩
 obtain ⟨V',Rf⟩:∃ V',V'=(V.put lab (b,0)).aX lab (.int .i64 (cap:Nat)):=⟨_,rfl⟩
 rw [<- Rf] at bQ |-
 have e1:V'.β lab=some (b,0):=by rw [Rf];simp [aZ.put,aZ.aX]
 have e2:V'.σ lab=some (.int .i64 (cap:Nat)):=by rw [Rf];simp [aZ.aX]
 have Ww:SB.aN V l (.cS k xs el)=some b:=by simp [SB.aN,hσ,Value.ownBlock]
 have FY:b≠b2:=by
  intro e
  exact h.jX l _ lb _ b dG hl hb rfl Ww (by simp [SB.aN,nD,e])
 have oO:aG V' (cs.set i (.cQ lab 0 xs.length 0))=some ys:=by
  have gM:aG V' cs=some ys:=dC bQ.1 rK
  obtain ⟨x,nX,Jp⟩:=dZ gM i _ hi
  simp only [den,bQ.1.2 _ _ hσ,zzI] at Jp
  refine pM ?_ cs ys i gM nX
  rw [<- Jp]
  simp [den,e1,e2,oD]
 refine h.step (N:=fun q=>if q=lab then some (.row 1 (xs.map (SV.int false k)) el) else if q=l then some .gone else if q=lb then some (.own (cs.set i (.cQ lab 0 xs.length 0)) ty) else none) bQ.1 (fun q C hk=>?_) (fun q C hk=>?_) (fun q C p hk hp=>?_) (fun q C q' C' p Au hk iA ho hp=>?_) (zzr _) (fun _ _ _=>rfl) rfl rfl rfl
 .simp only [eG,bL.eI,fT,List.cons_append,zzv] at hk
  by_cases k1:l=q
  .subst k1
   rw [aH] at hk
   left
   simp only [if_neg (show ¬ l=lab by omega),if_true]
   simpa using hk
  .rw [aD k1] at hk
   by_cases k2:lb=q
   .subst k2
    rw [aH] at hk
    left
    simp only [if_neg (show ¬ lb=lab by omega),if_neg (fun q=>dG (Eq.symm q)),if_true]
    simpa using hk
   .rw [aD k2] at hk
    by_cases k3:lab=q
    .subst k3;rw [aH] at hk;left;simpa using hk
    .rw [aD k3] at hk
     right
     simp only [look] at hk
     exact ⟨by rw [if_neg (fun q=>k3 q.symm),if_neg (fun q=>k1 q.symm),if_neg (fun q=>k2 q.symm)],hk⟩
 .by_cases k1:q=lab
  .rw [if_pos k1] at hk
   cases hk
   subst k1
   refine ⟨xs.map (Value.int k),zF V' k xs,b,cap,cur,e1,e2,hh,rC,mK,⟨xs.length,by simp,hle⟩,?_⟩
   rw [List.length_map]
   rw [Nat.mul_one] at cT
   exact cT
  .rw [if_neg k1] at hk
   by_cases k2:q=l
   .rw [if_pos k2] at hk;cases hk;exact ⟨[],rfl,trivial⟩
   .rw [if_neg k2] at hk
    by_cases k3:q=lb
    .rw [if_pos k3] at hk
     cases hk
     subst k3
     exact ⟨ys,oO,b2,bQ.1.1 _ _ nD,VK⟩
    .rw [if_neg k3] at hk;cases hk
 .by_cases k1:q=lab
  .rw [if_pos k1] at hk
   cases hk
   subst k1
   simp only [SB.aN,e1,zzm,zzI] at hp
   subst hp
   right;left
   exact ⟨l,_,hl,rfl,Ww,by simp [if_neg (show ¬ l=q by omega)]⟩
  .rw [if_neg k1] at hk
   by_cases k2:q=l
   .rw [if_pos k2] at hk;cases hk;cases hp
   .rw [if_neg k2] at hk
    by_cases k3:q=lb
    .rw [if_pos k3] at hk
     cases hk
     subst k3
     simp only [SB.aN,bQ.1.1 _ _ nD,zzm,zzI] at hp
     subst hp
     right;left
     exact ⟨q,_,hb,rfl,by simp [SB.aN,nD],by simp [if_neg k1,if_neg k2]⟩
    .rw [if_neg k3] at hk;cases hk
 .have aN:∀ q C p,(if q=lab then some (SB.row 1 (xs.map (SV.int false k)) el) else if q=l then some .gone else if q=lb then some (.own (cs.set i (.cQ lab 0 xs.length 0)) ty) else none)=some C->C.aN V' q=some p->(q=lab/\p=b)\/(q=lb/\p=b2):=by
   intro q C p hk hp
   by_cases k1:q=lab
   .rw [if_pos k1] at hk
    cases hk
    subst k1
    simp only [SB.aN,e1,zzm,zzI] at hp
    exact .inl ⟨rfl,hp.symm⟩
   .rw [if_neg k1] at hk
    by_cases k2:q=l
    .rw [if_pos k2] at hk;cases hk;cases hp
    .rw [if_neg k2] at hk
     by_cases k3:q=lb
     .rw [if_pos k3] at hk
      cases hk
      subst k3
      simp only [SB.aN,bQ.1.1 _ _ nD,zzm,zzI] at hp
      exact .inr ⟨rfl,hp.symm⟩
     .rw [if_neg k3] at hk;cases hk
  intro Rr
  rcases aN q C p hk hp with ⟨r1,r2⟩ | ⟨r1,r2⟩ <;> rcases aN q' C' p iA Rr with ⟨r3,r4⟩ | ⟨r3,r4⟩
  .omega
  .exact FY (r2.symm.trans r4)
  .exact FY (r4.symm.trans r2)
  .omega
end
noncomputable def Oe (F0 N:Nat) (B:bA) (t i:Nat) (s:St):Option St:=match s.g.get t with
 | some (.ptr lb true 0)=>match s.T B lb with
   | some (.own cs ty)=>match cs[i]? with
     | some (.buf l)=>match s.T B l with
       | some (.cS k xs el)=>match Nat.blt 0 xs.length && !Nat.beq l lb with
         | true=>s.step F0 N none { val:=.raw undef,new:=[.row 1 (xs.map (SV.int false k)) el],wr:=[(l,.gone),(lb,.own (cs.set i (.cQ s.nx 0 xs.length 0)) ty)] } s.nx (s.nx+8)
         | false=>none
       | _=>none
     | _=>none
   | _=>none
 | _=>none
noncomputable def opS (F0 N:Nat) (B:bA) (t i:Nat) (s:St):St:=match Oe F0 N B t i s with
 | some s'=>s'
 | none=>s
section
variable {P:Program} {Γ:Env} {w0:World} {M:Nat->Prop} {B:bA} {N F0:Nat} {V0:aZ}
theorem Inv.Oe {t i:Nat} {s s':St} (h:Oe F0 N B t i s=some s') {V:aZ} {a:Act} {w:World} (hi:Inv P Γ w0 M B N F0 V0 s V a w):∃ V',Inv P Γ w0 M B N F0 V0 s' V' a w:=by
 unfold Sx.Oe at h
 split at h
 case h_2=>cases h
 rename_i lb _
 split at h
 case h_2=>cases h
 rename_i cs ty hb
 split at h
 case h_2=>cases h
 rename_i l hc
 split at h
 case h_2=>cases h
 rename_i k xs el hl
 split at h
 case h_2=>cases h
 rename_i iE
 simp only [zzn,Bool.not_eq_true'] at iE
 obtain ⟨k1,k2⟩:=iE
 obtain ⟨V',hV,hT⟩:=aC.opened hi.eI hi.top.fresh hi.hi hl (by simpa [Nat.blt_eq] using k1) hb hc (fun e=>by subst e;rw [Nat.beq_refl] at k2;cases k2) (.raw undef)
 exact ⟨V',hi.step (x:=undef) h (zzr _) (zzr _) hV (fun h=>by cases h) hT⟩
theorem G.op (t i:Nat) {cf:Cf} {K:List Fr} {s:St} {Q:Exit->Act->World->Prop} (hG:G P Γ w0 M B N F0 V0 cf K (opS F0 N B t i s) Q):G P Γ w0 M B N F0 V0 cf K s Q:=by
 intro V a w hi
 unfold opS at hG
 split at hG
 .rename_i s' h
  obtain ⟨V',fW⟩:=hi.Oe h
  exact hG V' a w fW
 .exact hG V a w hi
end
end Go.Proofs.YticicdfijghigaaGreatDoor.Sx
section
namespace Go.Proofs.YticicdfijghigaaGreatDoor.Sx
end Go.Proofs.YticicdfijghigaaGreatDoor.Sx
end
namespace Go.Proofs.YticicdfijghigaaGreatDoor.Sx
def cN (n:Nat) (xs:List Int):List Int:=(List.range n).map fun j=>xs.getD j 0
theorem eD {n:Nat} {xs:List Int} (h:xs.length=n):cN n xs=xs:=by
 unfold cN
 apply List.ext_getElem
 .simp [h]
 .intro i h1 h2
  simp [zzG,h2]
namespace B
def word (l:List Int) (i:Nat):Int:=lD .u32 (lD .u32 (lD .u32 (IntKind.u32.wrap (l.getD (4*i) 0)) (dK .u32 (IntKind.u32.wrap (l.getD (4*i+1) 0)) 8)) (dK .u32 (IntKind.u32.wrap (l.getD (4*i+2) 0)) 16)) (dK .u32 (IntKind.u32.wrap (l.getD (4*i+3) 0)) 24)
def rot (x k:Int):Int:=lD .u32 (dK .u32 x k) (cB .u32 x (32-k))
def qr (v:List Int) (a b c d:Nat):List Int:=
 let v:=v.set a (IntKind.u32.wrap (v.getD a 0+v.getD b 0))
 let v:=v.set d (rot (eZ .u32 (v.getD d 0) (v.getD a 0)) 16)
 let v:=v.set c (IntKind.u32.wrap (v.getD c 0+v.getD d 0))
 let v:=v.set b (rot (eZ .u32 (v.getD b 0) (v.getD c 0)) 12)
 let v:=v.set a (IntKind.u32.wrap (v.getD a 0+v.getD b 0))
 let v:=v.set d (rot (eZ .u32 (v.getD d 0) (v.getD a 0)) 8)
 let v:=v.set c (IntKind.u32.wrap (v.getD c 0+v.getD d 0))
 v.set b (rot (eZ .u32 (v.getD b 0) (v.getD c 0)) 7)
def dr (v:List Int):List Int:=
 qr (qr (qr (qr (qr (qr (qr (qr v 0 4 8 12) 1 5 9 13) 2 6 10 14) 3 7 11 15) 0 5 10 15) 1 6 11 12) 2 7 8 13) 3 4 9 14
def rounds (n:Nat) (v:List Int):List Int:=match n with
 | 0=>v
 | n+1=>rounds n (dr v)
def init (key nonce:List Int) (ctr:Int):List Int:=[1634760805,857760878,2036477234,1797285236]++(List.range 8).map (word key)++[ctr]++(List.range 3).map (word nonce)
def out (v w:List Int):List Int:=(List.range 64).map fun j=>IntKind.u8.wrap (cB .u32 (IntKind.u32.wrap (v.getD (j/4) 0+w.getD (j/4) 0)) (IntKind.i64.wrap (8*(j%4:Nat))))
def block (key nonce:List Int) (ctr:Int):List Int:=out (rounds 10 (init key nonce ctr)) (init key nonce ctr)
end B
def As (key nonce:List Int) (c:Int) (i:Nat):Int:=(B.block key nonce (IntKind.u32.wrap (c+(i/64:Nat)))).getD (i%64) 0
def cL (key nonce:List Int) (c:Int) (off n:Nat) (xs:List Int):List Int:=
 (List.range xs.length).map fun m=>if off<=m/\m<off+n then eZ .u8 (xs.getD m 0) (As key nonce c (m-off)) else xs.getD m 0
theorem fP (key nonce:List Int) (c:Int) (off n:Nat) (xs:List Int):(cL key nonce c off n xs).length=xs.length:=by simp [cL]
theorem pN (key nonce:List Int) (c:Int) (off n:Nat) (xs:List Int) {m:Nat} (h:m<xs.length):(cL key nonce c off n xs).getD m 0=if off<=m/\m<off+n then eZ .u8 (xs.getD m 0) (As key nonce c (m-off)) else xs.getD m 0:=by
 simp [cL,zzG,h]
theorem Fk (key nonce:List Int) (c:Int) (off:Nat) (xs:List Int):cL key nonce c off 0 xs=xs:=by
 apply List.ext_getElem
 .simp [cL]
 .intro i h1 h2
  have:¬ (off<=i/\i<off+0):=by omega
  simp only [cL,List.getElem_map,List.getElem_range,if_neg this]
  simp [zzG,h2]
theorem Uw (key nonce:List Int) (c:Int) (off n:Nat) (xs:List Int) (h:off+n<xs.length) :
 (cL key nonce c off n xs).set (off+n) (eZ .u8 ((cL key nonce c off n xs).getD (off+n) 0) (As key nonce c n))=cL key nonce c off (n+1) xs:=by
 apply List.ext_getElem
 .simp [cL]
 .intro i h1 h2
  have hl:i<xs.length:=by simpa [cL] using h2
  rw [List.getElem_set]
  split
  .rename_i e
   subst e
   rw [pN _ _ _ _ _ _ h,if_neg (by omega)]
   simp only [cL,List.getElem_map,List.getElem_range]
   rw [if_pos (by omega),Nat.add_sub_cancel_left]
  .rename_i e
   simp only [cL,List.getElem_map,List.getElem_range]
   by_cases hc:off<=i/\i<off+n
   .rw [if_pos hc,if_pos (by omega)]
   .rw [if_neg hc,if_neg (by omega)]
def tws:List (Nat × Nat):=[(184,140),(193,139),(207,141),(261,142),(263,144),(266,143)]
def fD (f:Nat):Option Sum:=match Nat.beq f 175 with
 | true=>some (yV false)
 | false=>match Nat.beq f 211 with
   | true=>some (yV true)
   | false=>none
def aB:List (Nat × Nat):=[(1,0),(2,2),(3,4),(0,8),(5,10),(6,11),(10,15),(11,16),(12,17),(13,18),(22,27)]
theorem mix:Tryz.prog.follows .mixedOrders=true:=by kernel_rfl
theorem aVk:Tryz.prog.funcs.toList.all (fun fn => !(fn.name == "runtime.NumGoroutine"))=true:=by kernel_rfl
theorem names (f:Nat) (fn:Func) (h:Tryz.prog.funcs[f]?=some fn):(fn.name == "runtime.NumGoroutine")=false:=by
 have hm:fn∈Tryz.prog.funcs.toList:=by
  have:=Array.mem_of_getElem? h
  simpa using this
 have:=List.all_eq_true.1 aVk fn hm
 simpa using this
theorem YM:∀ (args:Array Value) (w:World),(callFunc 184 args).run Tryz.prog w=(callFunc 140 args).run Tryz.prog w:=
 sX (twin := "math/big.subVV_g") Tryz.func184 Tryz.func140 rfl rfl (by kernel_rfl) (by kernel_rfl) (by kernel_rfl) (by kernel_rfl) rfl rfl
theorem YL:∀ (args:Array Value) (w:World),(callFunc 193 args).run Tryz.prog w=(callFunc 139 args).run Tryz.prog w:=
 sX (twin := "math/big.addVV_g") Tryz.func193 Tryz.func139 rfl rfl (by kernel_rfl) (by kernel_rfl) (by kernel_rfl) (by kernel_rfl) rfl rfl
theorem YK:∀ (args:Array Value) (w:World),(callFunc 207 args).run Tryz.prog w=(callFunc 141 args).run Tryz.prog w:=
 sX (twin := "math/big.lshVU_g") Tryz.func207 Tryz.func141 rfl rfl (by kernel_rfl) (by kernel_rfl) (by kernel_rfl) (by kernel_rfl) rfl rfl
theorem YJ:∀ (args:Array Value) (w:World),(callFunc 261 args).run Tryz.prog w=(callFunc 142 args).run Tryz.prog w:=
 sX (twin := "math/big.rshVU_g") Tryz.func261 Tryz.func142 rfl rfl (by kernel_rfl) (by kernel_rfl) (by kernel_rfl) (by kernel_rfl) rfl rfl
theorem YI:∀ (args:Array Value) (w:World),(callFunc 263 args).run Tryz.prog w=(callFunc 144 args).run Tryz.prog w:=
 sX (twin := "math/big.addMulVVWW_g") Tryz.func263 Tryz.func144 rfl rfl (by kernel_rfl) (by kernel_rfl) (by kernel_rfl) (by kernel_rfl) rfl rfl
theorem YH:∀ (args:Array Value) (w:World),(callFunc 266 args).run Tryz.prog w=(callFunc 143 args).run Tryz.prog w:=
 sX (twin := "math/big.mulAddVWW_g") Tryz.func266 Tryz.func143 rfl rfl (by kernel_rfl) (by kernel_rfl) (by kernel_rfl) (by kernel_rfl) rfl rfl
theorem aKw (f g:Nat) (h:look f tws=some g):∀ (args:Array Value) (w:World),(callFunc f args).run Tryz.prog w=(callFunc g args).run Tryz.prog w:=by
 have hm:=gC h
 simp only [tws,List.mem_cons,List.not_mem_nil,or_false,Prod.mk.injEq] at hm
 rcases hm with ⟨rfl,rfl⟩ | ⟨rfl,rfl⟩ | ⟨rfl,rfl⟩ | ⟨rfl,rfl⟩ | ⟨rfl,rfl⟩ | ⟨rfl,rfl⟩
 .exact YM
 .exact YL
 .exact YK
 .exact YJ
 .exact YI
 .exact YH
theorem TH (Γ:Env):aI Tryz.prog Γ 175 (yV false):=Jm false fun args w=>by
 rw [run_callFunc_extern Tryz.func175 (by kernel_rfl) (by kernel_rfl) (by kernel_rfl) (e:=add64Entry) (by kernel_rfl)]
 simp only [Sem.run_bind,Sem.run_pure]
theorem NL (Γ:Env):aI Tryz.prog Γ 211 (yV true):=Jm true fun args w=>by
 rw [run_callFunc_extern Tryz.func211 (by kernel_rfl) (by kernel_rfl) (by kernel_rfl) (e:=Td) (by kernel_rfl)]
 simp only [Sem.run_bind,Sem.run_pure]
theorem qC (f:Nat) (S:Sum) (h:fD f=some S) (Γ:Env):aI Tryz.prog Γ f S:=by
 unfold fD at h
 split at h
 .rename_i hb;have:=zzN hb;subst this;cases h;exact TH Γ
 .split at h
  .rename_i hb;have:=zzN hb;subst this;cases h;exact NL Γ
  .cases h
def XZ:List Nat:=[428,97]
theorem aPl:(Tryz.prog.info? 428).all (fun i=>i.comparable)=true:=by kernel_rfl
theorem aFd:Tryz.prog.stoodInHeld 428=false:=by kernel_rfl
theorem aPj:(Tryz.prog.info? 97).all (fun i=>i.comparable)=true:=by kernel_rfl
theorem aFc:Tryz.prog.stoodInHeld 97=false:=by kernel_rfl
theorem aFq (t:Nat) (h:XZ.elem t=true):(∀ i,Tryz.prog.info? t=some i->i.comparable=true)/\Tryz.prog.stoodInHeld t=false:=by
 have e:t=428\/t=97:=by simpa [XZ] using h
 rcases e with rfl | rfl
 .refine ⟨fun i hi=>?_,aFd⟩
  have:=aPl
  rw [hi] at this
  simpa using this
 .refine ⟨fun i hi=>?_,aFc⟩
  have:=aPj
  rw [hi] at this
  simpa using this
theorem aMp (ex:Nat->Option Sum) (hex:∀ f S,ex f=some S->∀ Γ:Env,Γ.aT=aB->aI Tryz.prog Γ f S):NA Tryz.prog aB XZ ex tws:=
 ⟨mix,names,aFq,⟨_,rfl⟩,aKw,hex⟩
noncomputable def env (ex:Nat->Option Sum) (n:Nat):Env:=Nj Tryz.prog aB XZ ex tws 400 n
theorem bV (ex:Nat->Option Sum) (hex:∀ f S,ex f=some S->∀ Γ:Env,Γ.aT=aB->aI Tryz.prog Γ f S) (n:Nat):cK Tryz.prog (env ex n):=aFe (aMp ex hex) 400 n
theorem bP (ex:Nat->Option Sum) (n:Nat):cC Tryz.prog (env ex n):=cC.prog qI.1
def Jx:List (Nat × SB):=[(10,.fS [.int true .u32 1634760805,.int true .u32 857760878,.int true .u32 2036477234,.int true .u32 1797285236]),(11,.fS ([0,4,8,12,1,5,9,13,2,6,10,14,3,7,11,15,0,5,10,15,1,6,11,12,2,7,8,13,3,4,9,14].map fun n=>.int true .i64 n))]
theorem EM (key nonce:List Int) (c:Int):aF (env fD 6) Tryz.f100 true [] 400 [.agg (cI .u8 32 key),.int false .u32 c,.agg (cI .u8 12 nonce)] (fun l=>look l Jx) 100 100 =
 some { val:=.agg ((B.block key nonce c).map (.int false .u8)) }:=by kernel_rfl
def bJ:List Prop->Prop
 | []=>True
 | p::r=>p/\bJ r
theorem aA:∀ {l:List Prop},bJ l->∀ q∈l,q
 | [],_,q,hq=>by cases hq
 | p::r,h,q,hq=>by
   rcases List.mem_cons.1 hq with rfl | hq
   .exact h.1
   .exact aA h.2 q hq
theorem qQ (V:aZ) (k:IntKind):∀ xs:List Int,aG V (xs.map (SV.int false k))=some (xs.map (Value.int k))
 | []=>rfl
 | x::xs=>by simp [aG,den,qQ V k xs]
theorem lA (V:aZ) (k:IntKind) (xs:List Int):den V (.agg (xs.map (SV.int false k)))=den V (.ai k xs):=by
 simp only [den,qQ,zzm]
theorem bB (V:aZ) {k:IntKind} {n:Nat} {xs:List Int} (h:xs.length=n):den V (.agg (cI k n xs))=den V (.ai k xs):=by
 simp only [den,xK h,zzm]
theorem aE.words {P:Program} {Γ Γ':Env} {f:FuncId} {vs Ml:List SV} {T T':bA} {lab F:Nat} {e e':bL} (h:aE P Γ f vs T lab F e) (hg:Γ'.aT=Γ.aT) (hv:∀ V,aG V Ml=aG V vs) (hT:∀ l B,T l=some B->T' l=some B)
 (he:∀ V,den V e.val=den V e'.val) (hn:e'.new=e.new) (hw:e'.wr=e.wr):aE P Γ' f Ml T' lab F e':=by
 intro w0 M V T2 w xs aK Ke AN hf hF hx o a K Q hK
 refine h w0 M V T2 w xs (fun l B hl=>aK l B (hT l B hl)) Ke (fun n l hl=>AN n l (by rw [hg];exact hl)) hf hF ((hv V).symm.trans hx) o a K Q fun V' x w' h1 h2 h3=>hK V' x w' h1 ((he V').symm.trans h2) ?_
 have:eG T2 lab e'=eG T2 lab e:=by funext l;simp only [eG,bL.eI,hn,hw]
 rw [this]
 exact h3
noncomputable def zL (vs:List SV) (F:Nat):St:={ g:=(Dq vs 0 .lf).getD .lf,tb:=.lf,nx:=F,ws:=[],ob:=[],hs:=[] }
def codeOf (f:Func):Code:=f.body.getD .skip
theorem Mi (a:Int) (j:Nat):IntKind.u32.wrap (IntKind.u32.wrap (a+j)+1)=IntKind.u32.wrap (a+(j+1:Nat)):=by
 simp only [IntKind.wrap_u32];omega
end Go.Proofs.YticicdfijghigaaGreatDoor.Sx
