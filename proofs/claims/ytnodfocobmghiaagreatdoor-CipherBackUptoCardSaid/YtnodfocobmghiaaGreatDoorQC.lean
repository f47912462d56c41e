/- The symbolic executor, thirty-third text: a state said in other words; runs up to a loop, told by what is owed. -/
import Derived.Test.YtnodfocobmghiaaGreatDoorProg
import Derived.KernelRfl
import Derived.Test.YtnodfocobmghiaaGreatDoorQB
open Go
set_option maxRecDepth 100000
namespace Go.Proofs.YtnodfocobmghiaaGreatDoor.Sx
def eqI (s s':Bool) (a b:Int):List Prop:=match s&&s' with
 | true=>match Ku a b with
   | true=>[]
   | false=>[a=b]
 | false=>[a=b]
theorem aKv {s s':Bool} {a b:Int} (h:∀ q∈eqI s s' a b,q):a=b:=by
 unfold eqI at h
 split at h
 .split at h
  .rename_i hb;exact Wr hb
  .exact h _ (by simp)
 .exact h _ (by simp)
def Oe (s s':Bool) (a b:Nat):List Prop:=match s&&s' with
 | true=>match Nat.beq a b with
   | true=>[]
   | false=>[a=b]
 | false=>[a=b]
theorem jK {s s':Bool} {a b:Nat} (h:∀ q∈Oe s s' a b,q):a=b:=by
 unfold Oe at h
 split at h
 .split at h
  .rename_i hb;exact cP hb
  .exact h _ (by simp)
 .exact h _ (by simp)
def Xu:List SV->Bool
 | []=>true
 | .int true _ _::r=>Xu r
 | .bool true _::r=>Xu r
 | _=>false
theorem Cz {V V':bA}:∀ {cs:List SV},Xu cs=true->aJ V cs=aJ V' cs
 | [],_=>rfl
 | v::r,h=>by
   unfold Xu at h
   split at h
   .rename_i e;cases e
   .rename_i e;cases e;simp only [aJ,den,Cz (V:=V) (V':=V') h]
   .rename_i e;cases e;simp only [aJ,den,Cz (V:=V) (V':=V') h]
   .cases h
def Bc (cs ds:List SV) (els:Option (List Prop)):Option (List Prop):=match Xu cs&&Xu ds with
 | true=>match Kt cs ds with
   | true=>some []
   | false=>none
 | false=>match uA cs,uA ds with
   | some (k,ns),some (k',ms)=>match qG k k' with
     | true=>some [ns=ms]
     | false=>none
   | _,_=>els
theorem uV {cs ds:List SV} {els:Option (List Prop)} {ps:List Prop} (h:Bc cs ds els=some ps) (hp:∀ q∈ps,q):(∀ V V',aJ V' ds=aJ V cs)\/els=some ps:=by
 unfold Bc at h
 split at h
 .rename_i hl
  simp only [iN] at hl
  split at h
  .rename_i hb
   left
   intro V V'
   rw [<- zW hb]
   exact Cz hl.1
  .cases h
 .split at h
  .rename_i h1 h2
   split at h
   .rename_i hk
    cases h
    have e:=hp _ dC
    have hk:_=_:=jP hk
    subst e hk
    left
    intro V V'
    rw [Da h1,Da h2]
   .cases h
  .exact .inr h
mutual
def gG:SV->SV->Option (List Prop)
 | .int s k n,.int s' k' n'=>match qG k k' with
   | true=>some (eqI s s' n n')
   | false=>none
 | .bool s b,.bool s' b'=>match s&&s' with
   | true=>match Pt b b' with
     | true=>some []
     | false=>none
   | false=>some [b=b']
 | .agg vs,.agg us=>Bc vs us (wW vs us)
 | .ai k xs,.ai k' ys=>match qG k k' with
   | true=>some [xs=ys]
   | false=>none
 | .agg vs,.ai k ys=>(cU k vs).map fun ns=>[ns=ys]
 | .ai k xs,.agg us=>(cU k us).map fun ns=>[xs=ns]
 | .eD vs,.eD us=>wW vs us
 | .ptr l s o,.ptr l' s' o'=>match Nat.beq l l' with
   | true=>some (Oe s s' o o')
   | false=>none
 | .aH l s o n c,.aH l' s' o' n' c'=>match Nat.beq l l' with
   | true=>some (Oe s s' o o'++(Oe s s' n n'++Oe s s' c c'))
   | false=>none
 | .dJ l o n lo,.dJ l' o' n' lo'=>match Nat.beq l l'&&(Nat.beq o o'&&Nat.beq lo lo') with
   | true=>some (Oe false false n n')
   | false=>none
 | .buf l,.buf l'=>match Nat.beq l l' with
   | true=>some []
   | false=>none
 | .pT l n c z j le,.pT l' n' c' z' j' le'=>match Nat.beq l l'&&(Nat.beq z z'&&Nat.beq le le') with
   | true=>some [n=n'/\c=c'/\j=j']
   | false=>none
 | .iZ l o,.iZ l' o'=>match Nat.beq l l' with
   | true=>some (Oe false false o o')
   | false=>none
 | .mG l lo hi,.mG l' lo' fV=>match Nat.beq l l' with
   | true=>some [lo=lo'/\hi=fV]
   | false=>none
 | .iH l n,.iH l' n'=>match Nat.beq l l' with
   | true=>some (Oe false false n n')
   | false=>none
 | .pX t v,.pX t' v'=>match Nat.beq t t' with
   | true=>gG v v'
   | false=>none
 | .fn (.func f) xs ys,.fn (.func g) us vs=>match Nat.beq f g with
   | true=>match wW xs us,wW ys vs with
     | some a,some b=>some (a++b)
     | _,_=>none
   | false=>none
 | .raw (.slice none 0 0),.raw (.slice none 0 0)=>some []
 | .raw (.pointer none),.raw (.pointer none)=>some []
 | .raw .nilIface,.raw .nilIface=>some []
 | .raw .nilFunc,.raw .nilFunc=>some []
 | .raw v,.raw v'=>some [v=v']
 | _,_=>none
def wW:List SV->List SV->Option (List Prop)
 | [],[]=>some []
 | v::r,u::t=>match gG v u,wW r t with
   | some a,some b=>some (a++b)
   | _,_=>none
 | _,_=>none
end
theorem jH {a b:List Prop} (h:∀ q∈a++b,q):∀ q∈a,q:=fun q hq=>h q (List.mem_append_left _ hq)
theorem fY {a b:List Prop} (h:∀ q∈a++b,q):∀ q∈b,q:=fun q hq=>h q (List.mem_append_right _ hq)
mutual
theorem jL {V:bA}:∀ {v u:SV} {ps:List Prop},gG v u=some ps->(∀ q∈ps,q)->den V u=den V v
 | .int s k n,u,ps,h,hp=>by
   cases u <;> simp only [gG] at h <;> first | (cases h;done) | skip
   split at h
   .rename_i hk
    cases h
    rw [aKv hp]
    have:k=_:=jP hk
    rw [this];rfl
   .cases h
 | .bool s b,u,ps,h,hp=>by
   cases u <;> simp only [gG] at h <;> first | (cases h;done) | skip
   split at h
   .split at h
    .rename_i hb;cases h;rw [rL hb];rfl
    .cases h
   .cases h;have:=hp _ dC;subst this;rfl
 | .agg vs,u,ps,h,hp=>by
   cases u <;> simp only [gG] at h <;> first | (cases h;done) | skip
   case agg=>
    rcases uV h hp with e | e
    .simp only [den,e V V]
    .simp only [den,lE e hp]
   case ai=>
    simp only [dH] at h
    obtain ⟨ns,hn,rfl⟩:=h
    have e:=hp _ dC
    subst e
    simp only [den,cS hn,gL]
 | .ai k xs,u,ps,h,hp=>by
   cases u <;> simp only [gG] at h <;> first | (cases h;done) | skip
   case agg=>
    simp only [dH] at h
    obtain ⟨ns,hn,rfl⟩:=h
    have e:=hp _ dC
    subst e
    simp only [den,cS hn,gL]
   case ai=>
    split at h
    .rename_i hk
     cases h
     have e:=hp _ dC
     have hk:_=_:=jP hk
     subst e hk
     rfl
    .cases h
 | .eD vs,u,ps,h,hp=>by
   cases u <;> simp only [gG] at h <;> first | (cases h;done) | skip
   simp only [den,lE h hp]
 | .ptr l s o,u,ps,h,hp=>by
   cases u <;> simp only [gG] at h <;> first | (cases h;done) | skip
   split at h
   .rename_i hl;cases h;simp only [den,jK hp,cP hl]
   .cases h
 | .aH l s o n c,u,ps,h,hp=>by
   cases u <;> simp only [gG] at h <;> first | (cases h;done) | skip
   split at h
   .rename_i hl;cases h;simp only [den,jK (jH hp),jK (jH (fY hp)),jK (fY (fY hp)),cP hl]
   .cases h
 | .dJ l o n c,u,ps,h,hp=>by
   cases u <;> simp only [gG] at h <;> first | (cases h;done) | skip
   split at h
   .rename_i hl
    simp only [iN] at hl
    obtain ⟨h1,h2,h4⟩:=hl
    cases h
    simp only [den,cP h1,cP h2,jK hp,cP h4]
   .cases h
 | .buf l,u,ps,h,hp=>by
   cases u <;> simp only [gG] at h <;> first | (cases h;done) | skip
   split at h
   .rename_i hl;simp only [den,cP hl]
   .cases h
 | .pT l n c z j le,u,ps,h,hp=>by
   cases u <;> simp only [gG] at h <;> first | (cases h;done) | skip
   split at h
   .rename_i hl
    simp only [iN] at hl
    obtain ⟨h1,h2,h3⟩:=hl
    cases h
    obtain ⟨e1,e2,e3⟩:=hp _ dC
    simp only [den,cP h1,cP h2,cP h3,e1,e2,e3]
   .cases h
 | .iZ l o,u,ps,h,hp=>by
   cases u <;> simp only [gG] at h <;> first | (cases h;done) | skip
   split at h
   .rename_i hl;cases h;simp only [den,jK hp,cP hl]
   .cases h
 | .mG l lo hi,u,ps,h,hp=>by
   cases u <;> simp only [gG] at h <;> first | (cases h;done) | skip
   split at h
   .rename_i hl;cases h;obtain ⟨e1,e2⟩:=hp _ dC;simp only [den,e1,e2,cP hl]
   .cases h
 | .iH l n,u,ps,h,hp=>by
   cases u <;> simp only [gG] at h <;> first | (cases h;done) | skip
   split at h
   .rename_i hl;cases h;simp only [den,jK hp,cP hl]
   .cases h
 | .pX t v,u,ps,h,hp=>by
   cases u <;> simp only [gG] at h <;> first | (cases h;done) | skip
   split at h
   .rename_i hl;simp only [den,jL h hp,cP hl]
   .cases h
 | .fn f xs ys,u,ps,h,hp=>by
   cases f with
   | func f=>
     cases u with
     | fn g us vs=>
       cases g with
       | func g=>
         simp only [gG] at h
         split at h
         .rename_i hf
          split at h
          .rename_i a b ha hb
           cases h
           simp only [den,lE ha (jH hp),lE hb (fY hp),cP hf]
          .cases h
         .cases h
       | _=>simp [gG] at h
     | _=>simp [gG] at h
   | _=>cases u <;> simp [gG] at h
 | .raw v,u,ps,h,hp=>by
   cases u with
   | raw v'=>
     unfold gG at h
     split at h
     all_goals first
      | (cases h;have e:=hp _ dC;rename_i e1 e2;cases e1;cases e2;rw [e];done)
      | (rename_i e1 e2;cases e1;cases e2;rfl)
      | (cases h;have e:=hp _ dC;rename_i e1 e2 _;cases e1;cases e2;rw [e];done)
      | (simp_all;done)
      | skip
   | _=>simp [gG] at h
theorem lE {V:bA}:∀ {vs us:List SV} {ps:List Prop},wW vs us=some ps->(∀ q∈ps,q)->aJ V us=aJ V vs
 | [],us,ps,h,hp=>by
   cases us with
   | nil=>rfl
   | cons=>simp [wW] at h
 | v::r,us,ps,h,hp=>by
   cases us with
   | nil=>simp [wW] at h
   | cons u t=>
     simp only [wW] at h
     split at h
     .rename_i a b ha hb
      cases h
      simp only [aJ,jL ha (jH hp),lE hb (fY hp)]
     .cases h
end
def iW:SB->SB->Option (List Prop)
 | _,.gone=>some []
 | .own cs t,.own ds t'=>match Nat.beq t t' with
   | true=>Bc cs ds (wW cs ds)
   | false=>none
 | .own cs t,.ints k xs t'=>match cU k cs with
   | some ns=>some [ns=xs/\t=t']
   | none=>none
 | .ints k xs t,.ints k' ys t'=>match qG k k' with
   | true=>some [xs=ys/\t=t']
   | false=>none
 | .ints k xs t,.own ds t'=>match cU k ds with
   | some ns=>some [xs=ns/\t=t']
   | none=>none
 | .eQ cs,.eQ ds=>Bc cs ds (wW cs ds)
 | .eQ cs,.nT k xs=>(cU k cs).map fun ns=>[ns=xs]
 | .nT k xs,.nT k' ys=>match qG k k' with
   | true=>some [xs=ys]
   | false=>none
 | .fQ sz n t,.fQ BQ n' t'=>match Nat.beq sz BQ&&Nat.beq t t' with
   | true=>some (Oe false false n n')
   | false=>none
 | .dF k xs t,.dF k' ys t'=>match Nat.beq t t'&&qG k k' with
   | true=>some [xs=ys]
   | false=>none
 | .row z cs t,.row z' ds t'=>match Nat.beq t t'&&Nat.beq z z' with
   | true=>wW cs ds
   | false=>none
 | .eN vs t,.eN us t'=>match Nat.beq t t' with
   | true=>some [vs=us]
   | false=>none
 | .own cs t,.eN us t'=>match Nat.beq t t' with
   | true=>some [∀ V:bA,aJ V cs=some us]
   | false=>none
 | .eN vs t,.own ds t'=>match Nat.beq t t' with
   | true=>some [∀ V:bA,aJ V ds=some vs]
   | false=>none
 | .gC k xs,.gC k' ys=>match qG k k' with
   | true=>some [xs=ys]
   | false=>none
 | .eK xs t,.eK ys t'=>match Nat.beq t t' with
   | true=>some [xs=ys]
   | false=>none
 | .rC xs,.rC ys=>some [xs=ys]
 | _,_=>none
theorem XG {V:bA} {w:World} {l:Nat} {B C:SB} {ps:List Prop} (h:iW B C=some ps) (hp:∀ q∈ps,q) (kX:okB V w l B) :
 okB V w l C/\(∀ n,C.aT V l=some n->B.aT V l=some n)/\(C.owned=B.owned\/C = .gone):=by
 have gone:∀ {D:SB},okB V w l .gone/\(∀ n,SB.gone.aT V l=some n->D.aT V l=some n)/\(SB.gone.owned=D.owned\/SB.gone = .gone):=fun {D}=>⟨⟨[],rfl,trivial⟩,(fun n hn=>by cases hn),Or.inr rfl⟩
 obtain ⟨cs,hc,h2⟩:=kX
 cases C with
 | gone=>exact gone
 | own ds t'=>
   cases B with
   | own es t=>
     have key:t=t'/\aJ V ds=aJ V es:=by
      simp only [iW] at h
      split at h
      .rename_i ht
       refine ⟨cP ht,?_⟩
       rcases uV h hp with e | e
       .exact e V V
       .exact lE e hp
      .cases h
     obtain ⟨rfl,hd⟩:=key
     exact ⟨⟨cs,hd.trans hc,h2⟩,fun n hn=>hn,.inl rfl⟩
   | ints k xs t=>
     simp only [iW] at h
     split at h
     .rename_i hk
      cases h
      obtain ⟨e,ht⟩:=hp _ dC
      subst e ht
      simp only [SB.cells,aW] at hc
      subst hc
      exact ⟨⟨_,cS hk,h2⟩,fun n hn=>hn,.inl rfl⟩
     .cases h
   | eN vs t=>
     simp only [iW] at h
     split at h
     .rename_i ht
      cases h
      have e:=hp _ dC
      have h3:=cP ht
      subst h3
      simp only [SB.cells,aW] at hc
      subst hc
      exact ⟨⟨_,e V,h2⟩,fun n hn=>hn,.inl rfl⟩
     .cases h
   | _=>simp [iW] at h
 | ints k xs t'=>
   cases B with
   | own es t=>
     simp only [iW] at h
     split at h
     .rename_i hk
      cases h
      obtain ⟨e,ht⟩:=hp _ dC
      subst e ht
      have:some cs=some _:=hc.symm.trans (cS hk)
      cases this
      exact ⟨⟨_,rfl,h2⟩,fun n hn=>hn,.inl rfl⟩
     .cases h
   | ints k2 ys t=>
     simp only [iW] at h
     split at h
     .rename_i ht
      cases h
      obtain ⟨e,h3⟩:=hp _ dC
      have h4:_=_:=jP ht
      subst e h3 h4
      exact ⟨⟨cs,hc,h2⟩,fun n hn=>hn,.inl rfl⟩
     .cases h
   | _=>simp [iW] at h
 | eQ ds=>
   cases B with
   | eQ es=>
     have hd:aJ V ds=aJ V es:=by
      simp only [iW] at h
      rcases uV h hp with e | e
      .exact e V V
      .exact lE e hp
     exact ⟨⟨cs,hd.trans hc,h2⟩,fun n hn=>hn,.inl rfl⟩
   | _=>simp [iW] at h
 | nT k xs=>
   cases B with
   | eQ es=>
     simp only [iW,dH] at h
     obtain ⟨ns,hk,rfl⟩:=h
     have e:=hp _ dC
     subst e
     have:some cs=some _:=hc.symm.trans (cS hk)
     cases this
     exact ⟨⟨_,rfl,h2⟩,fun n hn=>hn,.inl rfl⟩
   | nT k2 ys=>
     simp only [iW] at h
     split at h
     .rename_i ht
      cases h
      have e:=hp _ dC
      have h4:_=_:=jP ht
      subst e h4
      exact ⟨⟨cs,hc,h2⟩,fun n hn=>hn,.inl rfl⟩
     .cases h
   | _=>simp [iW] at h
 | fQ z m t'=>
   cases B with
   | fQ z2 m2 t=>
     simp only [iW] at h
     split at h
     .rename_i ht
      cases h
      simp only [iN] at ht
      have h3:=cP ht.1
      have h4:=cP ht.2
      have e:=jK hp
      subst h3 h4 e
      exact ⟨⟨cs,hc,h2⟩,fun n hn=>hn,.inl rfl⟩
     .cases h
   | _=>simp [iW] at h
 | dF k xs t'=>
   cases B with
   | dF k2 ys t=>
     simp only [iW] at h
     split at h
     .rename_i ht
      cases h
      simp only [iN] at ht
      have e:=hp _ dC
      have h3:=cP ht.1
      have h4:_=_:=jP ht.2
      subst e h3 h4
      exact ⟨⟨cs,hc,h2⟩,fun n hn=>hn,.inl rfl⟩
     .cases h
   | _=>simp [iW] at h
 | row z ds t'=>
   cases B with
   | row z2 es t=>
     simp only [iW] at h
     split at h
     .rename_i ht
      simp only [iN] at ht
      have h3:=cP ht.1
      have h4:=cP ht.2
      subst h3 h4
      exact ⟨⟨cs,(lE h hp).trans hc,h2⟩,fun n hn=>hn,.inl rfl⟩
     .cases h
   | _=>simp [iW] at h
 | gC k xs=>
   cases B with
   | gC k2 ys=>
     simp only [iW] at h
     split at h
     .rename_i ht
      cases h
      have e:=hp _ dC
      have h4:_=_:=jP ht
      subst e h4
      exact ⟨⟨cs,hc,h2⟩,fun n hn=>hn,.inl rfl⟩
     .cases h
   | _=>simp [iW] at h
 | rC ds=>
   cases B with
   | rC es=>
     simp only [iW,aW] at h
     subst h
     have e:=hp _ dC
     subst e
     exact ⟨⟨cs,hc,h2⟩,fun n hn=>hn,.inl rfl⟩
   | _=>simp [iW] at h
 | eK ds t'=>
   cases B with
   | eK es t=>
     simp only [iW] at h
     split at h
     .rename_i ht
      cases h
      have e:=hp _ dC
      have h3:=cP ht
      subst e h3
      exact ⟨⟨cs,hc,h2⟩,fun n hn=>hn,.inl rfl⟩
     .cases h
   | _=>simp [iW] at h
 | eN us t'=>
   cases B with
   | own es t=>
     simp only [iW] at h
     split at h
     .rename_i ht
      cases h
      have e:=hp _ dC
      have h3:=cP ht
      subst h3
      have:some cs=some us:=hc.symm.trans (e V)
      cases this
      exact ⟨⟨_,rfl,h2⟩,fun n hn=>hn,.inl rfl⟩
     .cases h
   | eN vs t=>
     simp only [iW] at h
     split at h
     .rename_i ht
      cases h
      have e:=hp _ dC
      have h3:=cP ht
      subst e h3
      exact ⟨⟨cs,hc,h2⟩,fun n hn=>hn,.inl rfl⟩
     .cases h
   | _=>simp [iW] at h
noncomputable def yS {α:Type}:List (Nat × α)->Tr α
 | []=>.lf
 | (k,v)::r=>match Tr.put v 64 (yS r) k with
   | some t=>t
   | none=>.lf
theorem oD {α:Type}:∀ {l:List (Nat × α)} (n:Nat) (v:α),(yS l).get n=some v->look n l=some v
 | [],n,v,h=>by rw [yS,Tr.kT] at h;cases h
 | (k,u)::r,n,v,h=>by
   unfold yS at h
   split at h
   .rename_i t ht
    rw [Tr.gQ _ _ _ _ _ ht n] at h
    split at h
    .rename_i e;subst e;cases h;exact aI _ _ _
    .rename_i e;rw [aE (fun q=>e q.symm)];exact oD n v h
   .rw [Tr.kT] at h;cases h
noncomputable def bQ (gs:List (Nat × SV)) (tb:List (Nat × SB)) (nx:Nat) (ws:List Nat) (df:List SV):St:={ g:=yS gs,tb:=yS tb,nx:=nx,ws:=ws,ob:=[],df:=df,hs:=[] }
noncomputable def St.hint (s:St) (hs:List Bool):St:={ s with hs:=hs }
def Ug (g:Nat->Option SV):List (Nat × SV)->Option (List Prop)
 | []=>some []
 | (t,u)::r=>match g t with
   | some v=>match gG v u,Ug g r with
     | some a,some b=>some (a++b)
     | _,_=>none
   | none=>none
def Uh (g:Nat->Option SB):List (Nat × SB)->Option (List Prop)
 | []=>some []
 | (t,u)::r=>match g t with
   | some v=>match iW v u,Uh g r with
     | some a,some b=>some (a++b)
     | _,_=>none
   | none=>none
def aCk (o:Option SB):Bool:=match o with
 | some _=>true
 | none=>false
noncomputable def GX (F0:Nat) (B:aX) (gs:List (Nat × SV)) (tb:List (Nat × SB)) (nx:Nat) (ws:List Nat) (df:List SV) (s:St):Option (List Prop):=
 match Ug s.g.get gs,Uh (s.T B) tb,wW s.df df with
 | some a,some b,some c=>match Nat.beq s.nx nx&&((s.ws.all fun l=>ws.elem l)&&((ws.all fun l=>aCk ((yS tb).get l))&&tb.all fun p=>Nat.ble F0 p.1||ws.elem p.1)) with
   | true=>some (a++(b++c))
   | false=>none
 | _,_,_=>none
theorem Ng {g:Nat->Option SV}:∀ {gs:List (Nat × SV)} {ps:List Prop},Ug g gs=some ps->(∀ q∈ps,q)->∀ t u,look t gs=some u->∃ v,g t=some v/\∀ V,den V u=den V v
 | [],ps,h,hp,t,u,hl=>by cases hl
 | (k,u')::r,ps,h,hp,t,u,hl=>by
   simp only [Ug] at h
   split at h
   case h_2=>cases h
   rename_i v hv
   split at h
   case h_2=>cases h
   rename_i a b ha hb
   cases h
   by_cases e:k=t
   .subst e;rw [aI] at hl;cases hl;exact ⟨v,hv,fun V=>jL ha (jH hp)⟩
   .rw [aE e] at hl;exact Ng hb (fY hp) t u hl
theorem Nh {g:Nat->Option SB}:∀ {gs:List (Nat × SB)} {ps:List Prop},Uh g gs=some ps->(∀ q∈ps,q)->∀ t u,look t gs=some u->∃ v QN,g t=some v/\iW v u=some QN/\∀ q∈QN,q
 | [],ps,h,hp,t,u,hl=>by cases hl
 | (k,u')::r,ps,h,hp,t,u,hl=>by
   simp only [Uh] at h
   split at h
   case h_2=>cases h
   rename_i v hv
   split at h
   case h_2=>cases h
   rename_i a b ha hb
   cases h
   by_cases e:k=t
   .subst e;rw [aI] at hl;cases hl;exact ⟨v,a,hv,ha,jH hp⟩
   .rw [aE e] at hl;exact Nh hb (fY hp) t u hl
section
variable {P:Program} {Γ:Env} {w0:World} {M:Nat->Prop} {B:aX} {N F0:Nat} {V0:bA}
theorem Inv.cast (hb:nP Γ B F0 V0) {gs:List (Nat × SV)} {tb:List (Nat × SB)} {nx:Nat} {ws:List Nat} {df:List SV} {s:St} {ps:List Prop} (h:GX F0 B gs tb nx ws df s=some ps) (hp:∀ q∈ps,q)
 {V:bA} {a:Act} {w:World} (hi:Inv P Γ w0 M B N F0 V0 s V a w):Inv P Γ w0 M B N F0 V0 (bQ gs tb nx ws df) V a w:=by
 unfold GX at h
 split at h
 case h_2=>cases h
 rename_i pa pb pc ha Xg hc
 split at h
 case h_2=>cases h
 rename_i kE
 cases h
 simp only [iN] at kE
 obtain ⟨k1,k2,k3,k4⟩:=kE
 have k1:=cP k1
 subst k1
 have k2:∀ l,l∈s.ws->l∈ws:=fun l hl=>by simpa using List.all_eq_true.1 k2 l hl
 have hG:=Ng ha (jH hp)
 have hB:=Nh Xg (jH (fY hp))
 have hD:aJ V df=aJ V s.df:=lE hc (fY (fY hp))
 have src:∀ l b,(yS tb).get l=some b->∃ C,s.T B l=some C/\okB V w l b/\(∀ n,b.aT V l=some n->C.aT V l=some n)/\(b.owned=C.owned\/b = .gone):=by
  intro l b hl
  obtain ⟨C,QN,h4,h2,h3⟩:=hB l b (oD l b hl)
  obtain ⟨r1,r2,r3⟩:=XG h2 h3 (hi.eW.ok l C h4)
  exact ⟨C,h4,r1,r2,r3⟩
 have low:∀ l,(yS tb).get l=none->∀ b,B l=some b->s.T B l=some b:=by
  intro l hl b Tk
  have cM:l<F0:=by
   apply Nat.lt_of_not_le
   intro q
   rw [hb.cut l q] at Tk
   cases Tk
  have hnw:l ∉ s.ws:=fun hm=>by
   have:=List.all_eq_true.1 k3 l (k2 l hm)
   rw [hl] at this
   cases this
  simp only [St.T,hi.ch l cM hnw,Tk]
 have CL:∀ l b,(bQ gs tb s.nx ws df).T B l=some b->∃ C,s.T B l=some C/\okB V w l b/\(∀ n,b.aT V l=some n->C.aT V l=some n)/\(b.owned=C.owned\/b = .gone):=by
  intro l b hl
  simp only [St.T,bQ] at hl
  cases hg:(yS tb).get l with
  | some b'=>rw [hg] at hl;cases hl;exact src l _ hg
  | none=>
    rw [hg] at hl
    have:=low l hg b hl
    exact ⟨b,this,hi.eW.ok l b this,fun n hn=>hn,.inl rfl⟩
 refine ⟨fun t v hv=>?_,fun d v hv=>?_,hi.size,?_,⟨fun l b hl=>?_,fun l b l' b' n dI hl sL ho Fj Xy=>?_,fun l b n hl ho Fj=>?_,hi.eW.frame⟩,hi.aO,hi.top,hi.le,hi.low,fun l hl hn=>?_,hi.nx,fun l hl=>?_⟩
 .obtain ⟨u,h1,h2⟩:=hG t v (oD t v hv)
  rw [h2]
  exact hi.tmp t u h1
 .obtain ⟨u,h1,_⟩:=hG d v (oD d v hv)
  exact hi.keys d u h1
 .obtain ⟨xs,h1,h2⟩:=hi.defers
  exact ⟨xs,hD.trans h1,h2⟩
 .exact (CL l b hl).choose_spec.2.1
 .obtain ⟨C,h1,_,h3,h4⟩:=CL l b hl
  obtain ⟨C',Ov,_,h3',_⟩:=CL l' b' sL
  have hCo:C.owned=true:=by
   rcases h4 with h4 | h4
   .rw [<- h4];exact ho
   .subst h4;cases ho
  exact hi.eW.iY l C l' C' n dI h1 Ov hCo (h3 n Fj) (h3' n Xy)
 .obtain ⟨C,h1,_,h3,h4⟩:=CL l b hl
  have hCo:C.owned=true:=by
   rcases h4 with h4 | h4
   .rw [<- h4];exact ho
   .subst h4;cases ho
  exact hi.eW.perm l C n h1 hCo (h3 n Fj)
 .cases hg:(yS tb).get l with
  | none=>exact hg
  | some b=>
    have hm:=List.all_eq_true.1 k4 _ (gA (oD l b hg))
    simp only [Bool.or_eq_true] at hm
    rcases hm with hm | hm
    .have:=jX hm;omega
    .exact absurd (show l∈ws by simpa using hm) hn
 .cases hg:(bQ gs tb s.nx ws df).T B l with
  | none=>rfl
  | some b=>obtain ⟨C,h1,_⟩:=CL l b hg;rw [hi.hi l hl] at h1;cases h1
noncomputable def BP (F0:Nat) (B:aX) (fG:List Nat) (gs:List (Nat × SV)) (tb:List (Nat × SB)) (nx:Nat) (ws:List Nat) (df:List SV) (r:Option nM):Option (Cf × List Fr × List Prop):=match r with
 | some r=>match Tw F0 (gs.map (·.1)) fG [] r.st with
   | some s=>match GX F0 B gs tb nx ws df s with
     | some ps=>some (r.cf,r.fr,r.st.ob++ps)
     | none=>none
   | none=>none
 | none=>none
theorem G.to (aU:cD P Γ) (aV:cF P Γ) (gZ:P.follows .mixedOrders=true) (hb:nP Γ B F0 V0) {stops:List Nat} {lf n:Nat} {cf Of:Cf} {K K':List Fr} {s:St} (hs:List Bool) {fG:List Nat} {gs:List (Nat × SV)} {tb:List (Nat × SB)} {nx:Nat} {ws:List Nat} {df:List SV} {ps:List Prop} {Q:Exit->Act->World->Prop}
 (h:BP F0 B fG gs tb nx ws df (fX Γ B F0 N stops lf n cf K (s.hint hs))=some (Of,K',ps)) (hp:∀ q∈ps,q) (hG:G P Γ w0 M B N F0 V0 Of K' (bQ gs tb nx ws df) Q):G P Γ w0 M B N F0 V0 cf K s Q:=by
 unfold BP at h
 split at h
 case h_2=>cases h
 rename_i r hr
 split at h
 case h_2=>cases h
 rename_i s1 h1
 split at h
 case h_2=>cases h
 rename_i QN h2
 cases h
 have dY:G P Γ w0 M B N F0 V0 cf K (s.hint hs) Q:=by
  refine G.run aU aV gZ hr (jH hp) (G.norm hb h1 ?_)
  intro V a w hi
  exact hG V a w (hi.cast hb h2 (fY hp))
 intro V a w hi
 exact dY V a w (hi.hints s.ob hs)
theorem G.round (aU:cD P Γ) (aV:cF P Γ) (gZ:P.follows .mixedOrders=true) (hb:nP Γ B F0 V0) {stops:List Nat} {lf n:Nat} {cf:Cf} {K1 K:List Fr} {s:St} (hs:List Bool) {fG:List Nat} {gs:List (Nat × SV)} {tb:List (Nat × SB)} {nx:Nat} {ws:List Nat} {df:List SV} {ps:List Prop} {Q:Exit->Act->World->Prop} {S:Nat->St->Prop} {r:Nat}
 (h:BP F0 B fG gs tb nx ws df (fX Γ B F0 N stops lf n cf K1 (s.hint hs))=some (.at .normal,[],ps)) (hp:∀ q∈ps,q) (r':Nat) (cM:r'<r) (hS:S r' (bQ gs tb nx ws df)) :
 G P Γ w0 M B N F0 V0 cf K1 s (Exit.then (fun a w=>∃ r',r'<r/\∃ s',S r' s'/\∃ V,Inv P Γ w0 M B N F0 V0 s' V a w) (KQ P K Q)):=
 G.to aU aV gZ hb hs h hp (G.again fun V _ _ hi=>⟨r',cM,_,hS,V,hi⟩)
noncomputable def Kq (Γ:Env) (T:aX) (lab F:Nat) (fn:Func) (r:Option nM):Option bK:=match r with
 | some r=>match r.cf,r.fr with
   | .at x,[]=>Kp Γ T lab F fn x r.st
   | _,_=>none
 | none=>none
theorem Zv {F lab:Nat} {s:St} {v:SV} {e:bK} (h:finish F lab s v=some e):e.bO=s.ob:=by
 unfold finish at h
 split at h
 .cases h
 .simp only at h
  split at h
  .cases h;rfl
  .cases h
theorem Wn {Γ:Env} {T:aX} {lab F:Nat} {fn:Func} {x:Ex} {s:St} {e:bK} (h:Kp Γ T lab F fn x s=some e):∀ q∈s.ob,q∈e.bO:=by
 have main:(match kH Γ (aZ F T) F fn.ntmps s.df s with
   | some s=>match Aq Γ s.g.get (s.T (aZ F T)) fn.results.toList with
     | some (ob,rs)=>finish F lab (s.PM ob) (res rs)
     | none=>none
   | none=>none)=some e->∀ q∈s.ob,q∈e.bO:=by
  intro h q hq
  split at h
  case h_2=>cases h
  rename_i s2 h2
  split at h
  case h_2=>cases h
  rw [Zv h]
  exact List.mem_append_right _ (vR h2 q hq)
 cases x with
 | exit id=>cases h
 | normal=>exact main h
 | ret=>exact main h
theorem G.fin (aU:cD P Γ) (aV:cF P Γ) (gZ:P.follows .mixedOrders=true) {T:aX} {lab:Nat} {fn:Func} {e e':bK} {stops:List Nat} {lf n:Nat} {cf:Cf} {K:List Fr} {s:St} (hs:List Bool) {Q:Exit->Act->World->Prop}
 (H:∀ x s e',Kp Γ T lab F0 fn x s=some e'->(∀ q∈e'.bO,q)->e'.val=e.val->e'.new=e.new->e'.wr=e.wr->G P Γ w0 M (aZ F0 T) fn.ntmps F0 V0 (.at x) [] s Q)
 (h:Kq Γ T lab F0 fn (fX Γ (aZ F0 T) F0 fn.ntmps stops lf n cf K (s.hint hs))=some e') (hp:∀ q∈e'.bO,q) (h1:e'.val=e.val) (h2:e'.new=e.new) (h3:e'.wr=e.wr) :
 G P Γ w0 M (aZ F0 T) fn.ntmps F0 V0 cf K s Q:=by
 unfold Kq at h
 split at h
 case h_2=>cases h
 rename_i r hr
 split at h
 case h_2=>cases h
 rename_i x hx hf
 have dY:G P Γ w0 M (aZ F0 T) fn.ntmps F0 V0 cf K (s.hint hs) Q:=by
  refine G.run aU aV gZ hr (fun q hq=>hp q (Wn h q hq)) ?_
  rw [hx,hf]
  exact H x r.st e' h hp h1 h2 h3
 intro V a w hi
 exact dY V a w (hi.hints s.ob hs)
end
def dQ (T:aX) (k:IntKind):SV->Option (List Prop × List Int)
 | .raw (.slice none 0 0)=>some ([],[])
 | .aH l _ off len cap=>match T l with
   | some (.ints k2 xs _)=>match qG k k2 with
     | true=>some ([off+len<=xs.length/\len<=cap],(xs.drop off).take len)
     | false=>none
   | some (.nT k2 xs)=>match qG k k2 with
     | true=>some ([off+len<=xs.length/\len<=cap],(xs.drop off).take len)
     | false=>none
   | some (.own cs _)=>match cU k cs with
     | some xs=>some ([off+len<=xs.length/\len<=cap],(xs.drop off).take len)
     | none=>none
   | some (.eQ cs)=>match cU k cs with
     | some xs=>some ([off+len<=xs.length/\len<=cap],(xs.drop off).take len)
     | none=>none
   | _=>none
 | .buf l=>match T l with
   | some (.dF k2 xs _)=>match qG k k2 with
     | true=>some ([],xs)
     | false=>none
   | _=>none
 | .mG l lo hi=>match T l with
   | some (.dF k2 xs _)=>match qG k k2 with
     | true=>some ([lo<=hi/\hi<=xs.length],(xs.drop lo).take (hi-lo))
     | false=>none
   | _=>none
 | .iH l _=>match T l with
   | some (.gC k2 xs)=>match qG k k2 with
     | true=>some ([],xs)
     | false=>none
   | _=>none
 | .dJ l off len lo=>match T l with
   | some (.row sz cs _)=>match Nat.beq sz 1,cU k cs with
     | true,some xs=>some ([off+len<=xs.length/\lo<=off],(xs.drop off).take len)
     | _,_=>none
   | _=>none
 | _=>none
section
variable {w0 w:World} {M:Nat->Prop} {V:bA} {T:aX}
theorem Yp {k:IntKind} {v:SV} {x:Value} {ob:List Prop} {ys:List Int} (hT:aD w0 M V T w) (hv:den V v=some x) (h:dQ T k v=some (ob,ys)) (ho:∀ q∈ob,q) :
 zB w k x ys/\∀ n,iD x=some n->∃ l B,Lj v=some l/\T l=some B/\B.aT V l=some n:=by
 have aH:∀ (l:Nat) (B:SB) (s:Bool) (off len cap:Nat) (xs:List Int),v = .aH l s off len cap->T l=some B->B.cells V=some (xs.map (Value.int k)) ->
  (∀ b o,V.β l=some (b,o)->b<w.heap.size/\B.aT V l=some b/\∀ (j:Nat) (u:Value),(xs.map (Value.int k))[j]?=some u->w.cell? ⟨b,o+j,none⟩=some u) ->
  off+len<=xs.length->len<=cap->ys=(xs.drop off).take len->zB w k x ys/\∀ n,iD x=some n->∃ l B,Lj v=some l/\T l=some B/\B.aT V l=some n:=by
  intro l B s off len cap xs hvv hB hc fF h1 h2 pY
  subst hvv
  simp only [den,dH] at hv
  obtain ⟨⟨b,o⟩,hβ,rfl⟩:=hv
  obtain ⟨g1,g2,g3⟩:=fF b o hβ
  have hlen:ys.length=len:=by rw [pY];simp;omega
  refine ⟨.inr ⟨b,o+off,cap,by rw [hlen],g1,by omega,fun j u hj=>?_⟩,fun n hn=>?_⟩
  .rw [Nat.add_assoc]
   apply g3
   rw [pY] at hj
   simp only [List.map_take,List.map_drop,List.getElem?_take] at hj
   split at hj
   .rwa [List.getElem?_drop] at hj
   .cases hj
  .cases fC hn
   exact ⟨l,B,rfl,hB,g2⟩
 unfold dQ at h
 split at h
 .cases h
  simp only [den,aW] at hv
  subst hv
  exact ⟨.inl ⟨.nil,rfl⟩,fun n hn=>by cases hn⟩
 .rename_i l s off len cap
  split at h
  .rename_i k2 xs ty hB
   split at h
   case h_2=>cases h
   rename_i hk
   have hk:k=k2:=jP hk
   subst hk
   cases h
   obtain ⟨h1,h2⟩:=ho _ dC
   obtain ⟨cs,hc,b',iL,hh⟩:=hT.ok l _ hB
   cases hc
   refine aH l _ s off len cap xs rfl hB rfl (fun b o hβ=>?_) h1 h2 rfl
   rw [hβ] at iL;cases iL
   exact ⟨(Array.getElem?_eq_some_iff.1 hh).1,by simp [SB.aT,hβ],fun j u hj=>by rw [cell_of_row w _ (0+j) _ _ _ hh];simpa using hj⟩
  .rename_i k2 xs hB
   split at h
   case h_2=>cases h
   rename_i hk
   have hk:k=k2:=jP hk
   subst hk
   cases h
   obtain ⟨h1,h2⟩:=ho _ dC
   obtain ⟨cs,hc,b',o',iL,cM,hh⟩:=hT.ok l _ hB
   cases hc
   refine aH l _ s off len cap xs rfl hB rfl (fun b o hβ=>?_) h1 h2 rfl
   rw [hβ] at iL;cases iL
   exact ⟨cM.lt,by simp [SB.aT,hβ],hh⟩
  .rename_i cells ty hB
   split at h
   case h_2=>cases h
   rename_i xs hk
   cases h
   obtain ⟨h1,h2⟩:=ho _ dC
   obtain ⟨cs,hc,b',iL,hh⟩:=hT.ok l _ hB
   have e:some cs=some _:=hc.symm.trans (cS hk)
   cases e
   refine aH l _ s off len cap xs rfl hB hc (fun b o hβ=>?_) h1 h2 rfl
   rw [hβ] at iL;cases iL
   exact ⟨(Array.getElem?_eq_some_iff.1 hh).1,by simp [SB.aT,hβ],fun j u hj=>by rw [cell_of_row w _ (0+j) _ _ _ hh];simpa using hj⟩
  .rename_i cells hB
   split at h
   case h_2=>cases h
   rename_i xs hk
   cases h
   obtain ⟨h1,h2⟩:=ho _ dC
   obtain ⟨cs,hc,b',o',iL,cM,hh⟩:=hT.ok l _ hB
   have e:some cs=some _:=hc.symm.trans (cS hk)
   cases e
   refine aH l _ s off len cap xs rfl hB hc (fun b o hβ=>?_) h1 h2 rfl
   rw [hβ] at iL;cases iL
   exact ⟨cM.lt,by simp [SB.aT,hβ],hh⟩
  .cases h
 .rename_i l
  split at h
  case h_2=>cases h
  rename_i k2 xs ty hB
  split at h
  case h_2=>cases h
  rename_i hk
  have hk:k=k2:=jP hk
  subst hk
  cases h
  obtain ⟨cs,hc,u,hσ,bT⟩:=hT.ok l _ hB
  cases hc
  simp only [den,hσ,aW] at hv
  subst hv
  refine ⟨?_,fun n hn=>⟨l,_,rfl,hB,by simp [SB.aT,hσ,fC hn]⟩⟩
  rcases bT.1.2 with ⟨rfl,h0⟩ | ⟨gb,cap,cur,rfl,_,hh,hle,_,_,dG⟩
  .exact .inl ⟨.nil,List.eq_nil_of_length_eq_zero h0⟩
  .refine .inr ⟨gb,0,cap,rfl,(Array.getElem?_eq_some_iff.1 hh).1,hle,fun j u hj=>?_⟩
   rw [cell_of_row w gb _ _ _ _ hh]
   rw [<- dG,List.getElem?_take] at hj
   split at hj
   .simpa using hj
   .cases hj
 .rename_i l lo hi
  split at h
  case h_2=>cases h
  rename_i k2 xs ty hB
  split at h
  case h_2=>cases h
  rename_i hk
  have hk:k=k2:=jP hk
  subst hk
  cases h
  obtain ⟨h1,h2⟩:=ho _ dC
  obtain ⟨cs,hc,u,hσ,bT⟩:=hT.ok l _ hB
  cases hc
  have hlen:((xs.drop lo).take (hi-lo)).length=hi-lo:=by simp;omega
  rcases bT.1.2 with ⟨rfl,h0⟩ | ⟨gb,cap,cur,rfl,_,hh,hle,_,_,dG⟩
  .have:xs=[]:=List.eq_nil_of_length_eq_zero h0
   subst this
   have e0:lo=0/\hi=0:=by simp at h2;omega
   obtain ⟨rfl,rfl⟩:=e0
   simp only [den,hσ,aW] at hv
   subst hv
   exact ⟨.inl ⟨⟨none,by simp⟩,by simp⟩,fun n hn=>by cases fC hn⟩
  .simp only [den,hσ,aW] at hv
   by_cases rV:cap=lo
   .rw [if_pos rV] at hv
    subst hv
    refine ⟨.inr ⟨gb,0,cap-lo,by rw [hlen],(Array.getElem?_eq_some_iff.1 hh).1,by omega,fun j u hj=>?_⟩,fun n hn=>⟨l,_,rfl,hB,by simpa [SB.aT,hσ,Value.ownBlock] using fC hn⟩⟩
    have h0:hi-lo=0:=by omega
    rw [h0] at hj
    simp at hj
   .rw [if_neg rV,gL,bJ] at hv
    subst hv
    refine ⟨.inr ⟨gb,0+lo,cap-lo,by rw [hlen],(Array.getElem?_eq_some_iff.1 hh).1,by omega,fun j u hj=>?_⟩,fun n hn=>⟨l,_,rfl,hB,by simpa [SB.aT,hσ,Value.ownBlock] using fC hn⟩⟩
    rw [cell_of_row w gb _ _ _ _ hh]
    have h5:(xs.map (Value.int k))[lo+j]?=some u:=by
     simp only [List.map_take,List.map_drop,List.getElem?_take] at hj
     split at hj
     .rwa [List.getElem?_drop] at hj
     .cases hj
    rw [<- dG,List.getElem?_take] at h5
    split at h5
    .simpa using h5
    .cases h5
 .rename_i l n0
  split at h
  case h_2=>cases h
  rename_i k2 xs hB
  split at h
  case h_2=>cases h
  rename_i hk
  have hk:k=k2:=jP hk
  subst hk
  cases h
  obtain ⟨cs,hc,u,hσ,bT⟩:=hT.ok l _ hB
  cases hc
  simp only [den,gM] at hv
  obtain ⟨u',gN,hv⟩:=hv
  rw [hσ] at gN
  cases gN
  obtain ⟨rfl,_⟩:=kA hv
  refine ⟨?_,fun n hn=>⟨l,_,rfl,hB,by simp [SB.aT,hσ,hn]⟩⟩
  exact bT
 .rename_i l off len lo
  split at h
  case h_2=>cases h
  rename_i sz cells ty hB
  split at h
  case h_2=>cases h
  rename_i xs gF hk
  cases h
  have gF:=cP gF
  subst gF
  obtain ⟨h1,h2⟩:=ho _ dC
  obtain ⟨cs,hc,b,cap,cur,hβ,hσ,hh,hle,kD,⟨n,hn,CB⟩,dG⟩:=hT.ok l _ hB
  have e:some cs=some _:=hc.symm.trans (cS hk)
  cases e
  simp only [den,hβ,hσ,qJ,lI,gL,aW] at hv
  subst hv
  have hlen:((xs.drop off).take len).length=len:=by simp;omega
  simp only [List.length_map,Nat.mul_one] at hn
  refine ⟨.inr ⟨b,0+off,cap-lo,by simp only [sJ,hlen],(Array.getElem?_eq_some_iff.1 hh).1,by omega,fun j u hj=>?_⟩,fun n hn=>⟨l,_,rfl,hB,by simpa [SB.aT,hβ,Value.ownBlock] using fC hn⟩⟩
  rw [cell_of_row w b _ _ _ _ hh]
  have h5:(xs.map (Value.int k))[off+j]?=some u:=by
   simp only [List.map_take,List.map_drop,List.getElem?_take] at hj
   split at hj
   .rwa [List.getElem?_drop] at hj
   .cases hj
  rw [<- dG,List.getElem?_take] at h5
  split at h5
  .simpa using h5
  .cases h5
 .cases h
theorem Mf {k:IntKind} {v:SV} {x:Value} {ob:List Prop} {ys:List Int} (hT:aD w0 M V T w) (hv:den V v=some x) (h:dQ T k v=some (ob,ys)) (ho:∀ q∈ob,q) :
 zB w k x ys/\∀ n,iD x=some n->(∃ l B,Lj v=some l/\T l=some B/\B.aT V l=some n)\/(n<w0.heap.size/\¬ M n):=by
 obtain ⟨h1,h2⟩:=Yp hT hv h ho
 exact ⟨h1,fun n hn=>.inl (h2 n hn)⟩
def Rg:SB->Option (List SV)
 | .row sz cs _=>match Nat.beq sz 1 with
   | true=>some cs
   | false=>none
 | .own cs _=>some cs
 | .eQ cs=>some cs
 | _=>none
def Lt (T:aX) (vw:Vw):Prop:=∀ l0 v cs,vw l0=some (.BE v cs)->match v with
 | .aH l _ _ _ _=>∃ B,T l=some B/\Rg B=some cs
 | _=>True
mutual
def lC (vw:Vw) (T0:List (Nat × SB)) (T:aX):SV->SV->Option (List Prop)
 | .ptr l s o,.ptr l0 s' o'=>match vw l0 with
   | some (.lab l' off)=>match Nat.beq l l' with
     | true=>some (Oe s s' o (off+o'))
     | false=>none
   | _=>none
 | .aH l s o n c,.aH l0 s' o' n' c'=>match vw l0 with
   | some (.lab l' off)=>match Nat.beq l l' with
     | true=>some (Oe s s' o (off+o')++(Oe s s' n n'++Oe s s' c c'))
     | false=>none
   | _=>none
 | .buf l,.buf l0=>match vw l0 with
   | some (.lab l' 0)=>match Nat.beq l l' with
     | true=>some []
     | false=>none
   | _=>none
 | .dJ l o n lo,.dJ l0 o' n' lo'=>match vw l0 with
   | some (.lab l' 0)=>match Nat.beq l l'&&(Nat.beq o o'&&Nat.beq lo lo') with
     | true=>some (Oe false false n n')
     | false=>none
   | _=>none
 | v,.iH l0 n0=>match vw l0,look l0 T0 with
   | some (.val u),some (.gC k _)=>match gG u v,dQ T k v with
     | some p,some (ob,xs)=>some (p++(ob++[n0=xs.length]))
     | _,_=>none
   | some (.val u),some (.rC _)=>match gG u v,Fm T v with
     | some p,some xs=>some (p++[n0=xs.length])
     | _,_=>none
   | _,_=>none
 | .pX t v,.pX t' v'=>match Nat.beq t t' with
   | true=>lC vw T0 T v v'
   | false=>none
 | .agg vs,.agg us=>Bc vs us (sO vw T0 T vs us)
 | .eD vs,.eD us=>sO vw T0 T vs us
 | .fn (.func f) xs ys,.fn (.func g) us vs=>match Nat.beq f g with
   | true=>match sO vw T0 T xs us,sO vw T0 T ys vs with
     | some a,some b=>some (a++b)
     | _,_=>none
   | false=>none
 | v,u=>match fK v&&fK u with
   | true=>gG v u
   | false=>none
def sO (vw:Vw) (T0:List (Nat × SB)) (T:aX):List SV->List SV->Option (List Prop)
 | [],[]=>some []
 | v::r,u::t=>match lC vw T0 T v u,sO vw T0 T r t with
   | some a,some b=>some (a++b)
   | _,_=>none
 | _,_=>none
end
mutual
theorem Wb {vw:Vw} {T0:List (Nat × SB)} (sM:Lt T vw) (hT:aD w0 M V T w):∀ {u v:SV} {ps:List Prop},lC vw T0 T v u=some ps->(∀ q∈ps,q)->∀ x,den V v=some x->den (seen vw V) u=some x
 | .ptr l0 s' o',v,ps,h,hp,x,hx=>by
   cases v <;> simp only [lC,fK,Bool.and_false] at h <;> first | (cases h;done) | skip
   split at h
   .rename_i l' off hl
    split at h
    .rename_i hb
     have hb:=cP hb
     subst hb
     cases h
     have e:=jK hp
     subst e
     simp only [den,dH] at hx |-
     obtain ⟨p,hp,rfl⟩:=hx
     exact ⟨(p.1,p.2+off),by rw [(lD hl).1,hp];rfl,by simp only [Nat.add_assoc]⟩
    .cases h
   .cases h
 | .aH l0 s' o' n' c',v,ps,h,hp,x,hx=>by
   cases v <;> simp only [lC,fK,Bool.and_false] at h <;> first | (cases h;done) | skip
   split at h
   .rename_i l' off hl
    split at h
    .rename_i hb
     have hb:=cP hb
     subst hb
     cases h
     have e1:=jK (jH hp)
     have e2:=jK (jH (fY hp))
     have e3:=jK (fY (fY hp))
     subst e1 e2 e3
     simp only [den,dH] at hx |-
     obtain ⟨p,hp,rfl⟩:=hx
     exact ⟨(p.1,p.2+off),by rw [(lD hl).1,hp];rfl,by simp only [Nat.add_assoc]⟩
    .cases h
   .cases h
 | .buf l0,v,ps,h,hp,x,hx=>by
   cases v <;> simp only [lC,fK,Bool.and_false] at h <;> first | (cases h;done) | skip
   split at h
   .rename_i l' hl
    split at h
    .rename_i hb
     have hb:=cP hb
     subst hb
     simp only [den] at hx |-
     rw [(lD hl).2,hx]
    .cases h
   .cases h
 | .dJ l0 o' n' lo',v,ps,h,hp,x,hx=>by
   cases v <;> simp only [lC,fK,Bool.and_false] at h <;> first | (cases h;done) | skip
   split at h
   .rename_i l' hl
    split at h
    .rename_i hb
     simp only [iN] at hb
     obtain ⟨b1,b2,b3⟩:=hb
     have b1:=cP b1
     have b2:=cP b2
     have b3:=cP b3
     subst b1 b2 b3
     cases h
     have e:=jK hp
     subst e
     simp only [den,dH,gM] at hx |-
     obtain ⟨p,hp,c,hc,rfl⟩:=hx
     refine ⟨p,by rw [(lD hl).1,hp];rfl,c,by rw [(lD hl).2];exact hc,rfl⟩
    .cases h
   .cases h
 | .iH l0 n0,v,ps,h,hp,x,hx=>by
   have key:(match vw l0,look l0 T0 with
    | some (.val u),some (.gC k _)=>match gG u v,dQ T k v with
      | some p,some (ob,xs)=>some (p++(ob++[n0=xs.length]))
      | _,_=>none
    | some (.val u),some (.rC _)=>match gG u v,Fm T v with
      | some p,some xs=>some (p++[n0=xs.length])
      | _,_=>none
    | _,_=>none)=some ps:=by cases v <;> simpa only [lC] using h
   split at key
   case h_3=>cases key
   .rename_i u k ys hvw CC
    split at key
    case h_2=>cases key
    rename_i p ob xs h1 h2
    cases key
    have hd:den V v=den V u:=jL h1 (jH hp)
    obtain ⟨hr,_⟩:=Mf hT hx h2 (jH (fY hp))
    have hn:n0=xs.length:=(fY (fY hp)) _ dC
    simp only [den,gM]
    exact ⟨x,by rw [vQ hvw,<- hd,hx],by rw [hn];exact hr.iH⟩
   .rename_i u ys hvw CC
    split at key
    case h_2=>cases key
    rename_i p xs h1 h2
    cases key
    have hd:den V v=den V u:=jL h1 (jH hp)
    obtain ⟨hr,_⟩:=Ct hT hx h2
    have hn:n0=xs.length:=(fY hp) _ dC
    simp only [den,gM]
    exact ⟨x,by rw [vQ hvw,<- hd,hx],by rw [hn];exact hr.iH⟩
 | .pX t' v',v,ps,h,hp,x,hx=>by
   cases v <;> simp only [lC,fK,Bool.and_false] at h <;> first | (cases h;done) | skip
   split at h
   .rename_i hb
    have hb:=cP hb
    subst hb
    simp only [den,dH] at hx |-
    obtain ⟨y,hy,rfl⟩:=hx
    exact ⟨y,Wb sM hT h hp y hy,rfl⟩
   .cases h
 | .agg us,v,ps,h,hp,x,hx=>by
   have pure:(fK v&&fK (.agg us))=true->gG v (.agg us)=some ps->den (seen vw V) (.agg us)=some x:=by
    intro Ed hr
    simp only [iN] at Ed
    rw [mK (V:=seen vw V) (V':=V) Ed.2,jL hr hp,hx]
   cases v with
   | agg vs=>
     simp only [lC] at h
     simp only [den,dH] at hx |-
     obtain ⟨y,hy,rfl⟩:=hx
     rcases uV h hp with e | e
     .exact ⟨y,(e V (seen vw V)).trans hy,rfl⟩
     .exact ⟨y,pA sM hT e hp y hy,rfl⟩
   | _=>
     simp only [lC] at h
     split at h
     .rename_i Ed;exact pure Ed h
     .cases h
 | .eD us,v,ps,h,hp,x,hx=>by
   have pure:(fK v&&fK (.eD us))=true->gG v (.eD us)=some ps->den (seen vw V) (.eD us)=some x:=by
    intro Ed hr
    simp only [iN] at Ed
    rw [mK (V:=seen vw V) (V':=V) Ed.2,jL hr hp,hx]
   cases v with
   | eD vs=>
     simp only [lC] at h
     simp only [den,dH] at hx |-
     obtain ⟨y,hy,rfl⟩:=hx
     exact ⟨y,pA sM hT h hp y hy,rfl⟩
   | _=>
     simp only [lC] at h
     split at h
     .rename_i Ed;exact pure Ed h
     .cases h
 | .fn g us vs,v,ps,h,hp,x,hx=>by
   cases v with
   | fn f xs ys=>
     cases f with
     | func f=>
       cases g with
       | func g=>
         simp only [lC] at h
         split at h
         .rename_i hf
          have hf:=cP hf
          subst hf
          split at h
          .rename_i a b ha hb
           cases h
           simp only [den,gM,dH] at hx |-
           obtain ⟨y,hy,z,hz,rfl⟩:=hx
           exact ⟨y,pA sM hT ha (jH hp) y hy,z,pA sM hT hb (fY hp) z hz,rfl⟩
          .cases h
         .cases h
       | _=>simp [lC,fK] at h
     | _=>simp [lC,fK] at h
   | _=>cases g <;> simp [lC,fK] at h
 | .int s k n,v,ps,h,hp,x,hx=>by
   have h2:(match fK v&&fK (.int s k n) with
    | true=>gG v (.int s k n)
    | false=>none)=some ps:=by cases v <;> simpa only [lC] using h
   split at h2
   .rename_i Ed
    simp only [iN] at Ed
    rw [mK (V:=seen vw V) (V':=V) Ed.2,jL h2 hp,hx]
   .cases h2
 | .bool s b,v,ps,h,hp,x,hx=>by
   have h2:(match fK v&&fK (.bool s b) with
    | true=>gG v (.bool s b)
    | false=>none)=some ps:=by cases v <;> simpa only [lC] using h
   split at h2
   .rename_i Ed
    simp only [iN] at Ed
    rw [mK (V:=seen vw V) (V':=V) Ed.2,jL h2 hp,hx]
   .cases h2
 | .raw y,v,ps,h,hp,x,hx=>by
   have h2:(match fK v&&fK (.raw y) with
    | true=>gG v (.raw y)
    | false=>none)=some ps:=by cases v <;> simpa only [lC] using h
   split at h2
   .rename_i Ed
    simp only [iN] at Ed
    rw [mK (V:=seen vw V) (V':=V) Ed.2,jL h2 hp,hx]
   .cases h2
 | .ai k ys,v,ps,h,hp,x,hx=>by
   have h2:(match fK v&&fK (.ai k ys) with
    | true=>gG v (.ai k ys)
    | false=>none)=some ps:=by cases v <;> simpa only [lC] using h
   split at h2
   .rename_i Ed
    simp only [iN] at Ed
    rw [mK (V:=seen vw V) (V':=V) Ed.2,jL h2 hp,hx]
   .cases h2
 | .iZ ..,v,ps,h,hp,x,hx=>by cases v <;> simp [lC,fK] at h
 | .pT ..,v,ps,h,hp,x,hx=>by cases v <;> simp [lC,fK] at h
 | .mG ..,v,ps,h,hp,x,hx=>by cases v <;> simp [lC,fK] at h
theorem pA {vw:Vw} {T0:List (Nat × SB)} (sM:Lt T vw) (hT:aD w0 M V T w):∀ {us vs:List SV} {ps:List Prop},sO vw T0 T vs us=some ps->(∀ q∈ps,q)->∀ xs,aJ V vs=some xs->aJ (seen vw V) us=some xs
 | [],vs,ps,h,hp,xs,hx=>by
   cases vs with
   | nil=>exact hx
   | cons=>simp [sO] at h
 | u::t,vs,ps,h,hp,xs,hx=>by
   cases vs with
   | nil=>simp [sO] at h
   | cons v r=>
     simp only [sO] at h
     split at h
     .rename_i a b ha hb
      cases h
      simp only [aJ,gM,dH] at hx |-
      obtain ⟨y,hy,ys,pY,rfl⟩:=hx
      exact ⟨y,Wb sM hT ha (jH hp) y hy,ys,pA sM hT hb (fY hp) ys pY,rfl⟩
     .cases h
end
def eU (vw:Vw) (T0:List (Nat × SB)) (T:aX):SB->SB->Option (List Prop)
 | _,.gone=>some []
 | .own cs t,.own ds t'=>match Nat.beq t t' with
   | true=>Bc cs ds (sO vw T0 T cs ds)
   | false=>none
 | .own cs t,.ints k xs t'=>match cU k cs with
   | some ns=>some [ns=xs/\t=t']
   | none=>none
 | .ints k xs t,.ints k' ys t'=>match qG k k' with
   | true=>some [xs=ys/\t=t']
   | false=>none
 | .ints k xs t,.own ds t'=>match cU k ds with
   | some ns=>some [xs=ns/\t=t']
   | none=>none
 | .own cs _,.eQ ds=>Bc cs ds (sO vw T0 T cs ds)
 | .ints k xs _,.eQ ds=>(cU k ds).map fun ns=>[xs=ns]
 | .own cs _,.nT k xs=>(cU k cs).map fun ns=>[ns=xs]
 | .ints k xs _,.nT k' ys=>match qG k k' with
   | true=>some [xs=ys]
   | false=>none
 | .row sz cs t,.row BQ ds t'=>match Nat.beq sz BQ&&Nat.beq t t' with
   | true=>Bc cs ds (sO vw T0 T cs ds)
   | false=>none
 | .eQ cs,.eQ ds=>Bc cs ds (sO vw T0 T cs ds)
 | .eQ cs,.nT k xs=>(cU k cs).map fun ns=>[ns=xs]
 | .nT k xs,.nT k' ys=>match qG k k' with
   | true=>some [xs=ys]
   | false=>none
 | .fQ sz n t,.fQ BQ n' t'=>match Nat.beq sz BQ&&Nat.beq t t' with
   | true=>some (Oe false false n n')
   | false=>none
 | .dF k xs t,.dF k' ys t'=>match Nat.beq t t'&&qG k k' with
   | true=>some [xs=ys]
   | false=>none
 | .eK xs t,.eK ys t'=>match Nat.beq t t' with
   | true=>some [xs=ys]
   | false=>none
 | .eN vs t,.eN us t'=>match Nat.beq t t' with
   | true=>some [vs=us]
   | false=>none
 | .own cs t,.eN us t'=>match Nat.beq t t' with
   | true=>some [∀ V:bA,aJ V cs=some us]
   | false=>none
 | _,_=>none
theorem LL {vw:Vw} {T0:List (Nat × SB)} (sM:Lt T vw) (hT:aD w0 M V T w) {l l0:Nat} {B C:SB} {ps:List Prop} (hl:vw l0=some (.lab l 0)) (hB:T l=some B) (h:eU vw T0 T B C=some ps) (hp:∀ q∈ps,q) :
 okB (seen vw V) w l0 C/\(∀ n,C.aT (seen vw V) l0=some n->B.aT V l=some n)/\(C.owned=true->B.owned=true):=by
 have eβ:(seen vw V).β l0=V.β l:=by rw [(lD hl).1];simp
 have eσ:(seen vw V).σ l0=V.σ l:=(lD hl).2
 obtain ⟨cs,hc,h2⟩:=hT.ok l B hB
 have SG:∀ {xs ds:List SV},Bc xs ds (sO vw T0 T xs ds)=some ps->aJ V xs=some cs->aJ (seen vw V) ds=some cs:=by
  intro xs ds h hx
  rcases uV h hp with e | e
  .exact (e V (seen vw V)).trans hx
  .exact pA sM hT e hp _ hx
 cases C with
 | gone=>exact ⟨⟨[],rfl,trivial⟩,(fun n hn=>by cases hn),fun h=>by cases h⟩
 | own ds t'=>
   cases B with
   | own es t=>
     simp only [eU] at h
     split at h
     case h_2=>cases h
     rename_i ht
     have ht:=cP ht
     subst ht
     obtain ⟨b,hb,hh⟩:=h2
     exact ⟨⟨cs,SG h hc,b,eβ.trans hb,hh⟩,fun n hn=>by simpa [SB.aT,eβ] using hn,fun _=>rfl⟩
   | ints k xs t=>
     simp only [eU] at h
     split at h
     case h_2=>cases h
     rename_i hk
     cases h
     obtain ⟨e,ht⟩:=hp _ dC
     subst e ht
     cases hc
     obtain ⟨b,hb,hh⟩:=h2
     exact ⟨⟨_,cS hk,b,eβ.trans hb,hh⟩,fun n hn=>by simpa [SB.aT,eβ] using hn,fun _=>rfl⟩
   | _=>simp [eU] at h
 | ints k xs t'=>
   cases B with
   | own es t=>
     simp only [eU] at h
     split at h
     case h_2=>cases h
     rename_i hk
     cases h
     obtain ⟨e,ht⟩:=hp _ dC
     subst e ht
     have e2:some cs=some _:=hc.symm.trans (cS hk)
     cases e2
     obtain ⟨b,hb,hh⟩:=h2
     exact ⟨⟨_,rfl,b,eβ.trans hb,hh⟩,fun n hn=>by simpa [SB.aT,eβ] using hn,fun _=>rfl⟩
   | ints k2 ys t=>
     simp only [eU] at h
     split at h
     case h_2=>cases h
     rename_i ht
     cases h
     obtain ⟨e,h3⟩:=hp _ dC
     have h4:_=_:=jP ht
     subst e h3 h4
     obtain ⟨b,hb,hh⟩:=h2
     exact ⟨⟨cs,hc,b,eβ.trans hb,hh⟩,fun n hn=>by simpa [SB.aT,eβ] using hn,fun _=>rfl⟩
   | _=>simp [eU] at h
 | eQ ds=>
   cases B with
   | own es t=>
     simp only [eU] at h
     obtain ⟨b,hb,hh⟩:=h2
     exact ⟨⟨cs,SG h hc,b,0,eβ.trans hb,.of hh,fun j u hj=>by rw [cell_of_row w _ (0+j) _ _ _ hh];simpa using hj⟩,fun n hn=>by simpa [SB.aT,eβ] using hn,fun h=>by cases h⟩
   | ints k2 ys t=>
     simp only [eU,dH] at h
     obtain ⟨ns,hk,rfl⟩:=h
     have e:=hp _ dC
     subst e
     cases hc
     obtain ⟨b,hb,hh⟩:=h2
     exact ⟨⟨_,cS hk,b,0,eβ.trans hb,.of hh,fun j u hj=>by rw [cell_of_row w _ (0+j) _ _ _ hh];simpa using hj⟩,fun n hn=>by simpa [SB.aT,eβ] using hn,fun h=>by cases h⟩
   | eQ es=>
     simp only [eU] at h
     obtain ⟨b,o,hb,hh⟩:=h2
     exact ⟨⟨cs,SG h hc,b,o,eβ.trans hb,hh⟩,fun n hn=>by simpa [SB.aT,eβ] using hn,fun h=>by cases h⟩
   | _=>simp [eU] at h
 | nT k xs=>
   cases B with
   | own es t=>
     simp only [eU,dH] at h
     obtain ⟨ns,hk,rfl⟩:=h
     have e:=hp _ dC
     subst e
     have e2:some cs=some _:=hc.symm.trans (cS hk)
     cases e2
     obtain ⟨b,hb,hh⟩:=h2
     exact ⟨⟨_,rfl,b,0,eβ.trans hb,.of hh,fun j u hj=>by rw [cell_of_row w _ (0+j) _ _ _ hh];simpa using hj⟩,fun n hn=>by simpa [SB.aT,eβ] using hn,fun h=>by cases h⟩
   | ints k2 ys t=>
     simp only [eU] at h
     split at h
     case h_2=>cases h
     rename_i ht
     cases h
     have e:=hp _ dC
     have h4:_=_:=jP ht
     subst e h4
     cases hc
     obtain ⟨b,hb,hh⟩:=h2
     exact ⟨⟨_,rfl,b,0,eβ.trans hb,.of hh,fun j u hj=>by rw [cell_of_row w _ (0+j) _ _ _ hh];simpa using hj⟩,fun n hn=>by simpa [SB.aT,eβ] using hn,fun h=>by cases h⟩
   | eQ es=>
     simp only [eU,dH] at h
     obtain ⟨ns,hk,rfl⟩:=h
     have e:=hp _ dC
     subst e
     have e2:some cs=some _:=hc.symm.trans (cS hk)
     cases e2
     obtain ⟨b,o,hb,hh⟩:=h2
     exact ⟨⟨_,rfl,b,o,eβ.trans hb,hh⟩,fun n hn=>by simpa [SB.aT,eβ] using hn,fun h=>by cases h⟩
   | nT k2 ys=>
     simp only [eU] at h
     split at h
     case h_2=>cases h
     rename_i ht
     cases h
     have e:=hp _ dC
     have h4:_=_:=jP ht
     subst e h4
     obtain ⟨b,o,hb,hh⟩:=h2
     exact ⟨⟨cs,hc,b,o,eβ.trans hb,hh⟩,fun n hn=>by simpa [SB.aT,eβ] using hn,fun h=>by cases h⟩
   | _=>simp [eU] at h
 | fQ z m t'=>
   cases B with
   | fQ z2 m2 t=>
     simp only [eU] at h
     split at h
     case h_2=>cases h
     rename_i ht
     simp only [iN] at ht
     cases h
     have h3:=cP ht.1
     have h4:=cP ht.2
     have e:=jK hp
     subst h3 h4 e
     obtain ⟨v,us,hv,hh⟩:=h2
     exact ⟨⟨cs,hc,v,us,eσ.trans hv,hh⟩,fun n hn=>by simpa [SB.aT,eσ] using hn,fun _=>rfl⟩
   | _=>simp [eU] at h
 | dF k xs t'=>
   cases B with
   | dF k2 ys t=>
     simp only [eU] at h
     split at h
     case h_2=>cases h
     rename_i ht
     simp only [iN] at ht
     cases h
     have e:=hp _ dC
     have h3:=cP ht.1
     have h4:_=_:=jP ht.2
     subst e h3 h4
     obtain ⟨v,hv,hh⟩:=h2
     exact ⟨⟨cs,hc,v,eσ.trans hv,hh⟩,fun n hn=>by simpa [SB.aT,eσ] using hn,fun _=>rfl⟩
   | _=>simp [eU] at h
 | eK xs t'=>
   cases B with
   | eK ys t=>
     simp only [eU] at h
     split at h
     case h_2=>cases h
     rename_i ht
     cases h
     have e:=hp _ dC
     have h3:=cP ht
     subst e h3
     obtain ⟨v,hv,hh⟩:=h2
     exact ⟨⟨cs,hc,v,eσ.trans hv,hh⟩,fun n hn=>by simpa [SB.aT,eσ] using hn,fun _=>rfl⟩
   | _=>simp [eU] at h
 | eN us t'=>
   cases B with
   | own es t=>
     simp only [eU] at h
     split at h
     case h_2=>cases h
     rename_i ht
     cases h
     have e:=hp _ dC
     have h3:=cP ht
     subst h3
     have:some cs=some us:=hc.symm.trans (e V)
     cases this
     obtain ⟨b,hb,hh⟩:=h2
     exact ⟨⟨_,rfl,b,eβ.trans hb,hh⟩,fun n hn=>by simpa [SB.aT,eβ] using hn,fun _=>rfl⟩
   | eN vs t=>
     simp only [eU] at h
     split at h
     case h_2=>cases h
     rename_i ht
     cases h
     have e:=hp _ dC
     have h3:=cP ht
     subst e h3
     obtain ⟨b,hb,hh⟩:=h2
     exact ⟨⟨cs,hc,b,eβ.trans hb,hh⟩,fun n hn=>by simpa [SB.aT,eβ] using hn,fun _=>rfl⟩
   | _=>simp [eU] at h
 | row z ds t'=>
   cases B with
   | row z2 es t=>
     simp only [eU] at h
     split at h
     case h_2=>cases h
     rename_i ht
     simp only [iN] at ht
     have h3:=cP ht.1
     have h4:=cP ht.2
     subst h3 h4
     obtain ⟨b,cap,cur,hb,hσ,hh⟩:=h2
     exact ⟨⟨cs,SG h hc,b,cap,cur,eβ.trans hb,eσ.trans hσ,hh⟩,fun n hn=>by simpa [SB.aT,eβ] using hn,fun _=>rfl⟩
   | _=>simp [eU] at h
 | gC k xs=>cases B <;> simp [eU] at h
 | rC xs=>cases B <;> simp [eU] at h
def DI (vw:Vw) (T0:List (Nat × SB)) (T:aX) (l0:Nat) (B0:SB):Option (List Prop):=match B0 with
 | .gC k ys=>match vw l0 with
   | some (.val u)=>match dQ T k u with
     | some (ob,xs)=>some ((xs=ys)::ob)
     | none=>none
   | _=>none
 | .rC ys=>match vw l0 with
   | some (.val u)=>match Fm T u with
     | some xs=>some [xs=ys]
     | none=>none
   | _=>none
 | B0=>match vw l0 with
   | some (.lab l 0)=>match T l with
     | some B=>eU vw T0 T B B0
     | none=>none
   | _=>none
def nQ (vw:Vw) (l0:Nat):Option Nat:=match vw l0 with
 | some (.lab l _)=>some l
 | some (.val u)=>Lj u
 | some (.BE ..)=>none
 | none=>none
theorem aAi {vw:Vw} {T0:List (Nat × SB)} (sM:Lt T vw) (hT:aD w0 M V T w) {l0:Nat} {C:SB} {ps:List Prop} (h:DI vw T0 T l0 C=some ps) (hp:∀ q∈ps,q) (hv:∀ u,vw l0=some (.val u)->∃ x,den V u=some x) :
 okB (seen vw V) w l0 C/\(∀ n,C.aT (seen vw V) l0=some n->(∃ l B,nQ vw l0=some l/\T l=some B/\B.aT V l=some n)\/(n<w0.heap.size/\¬ M n))/\(C.owned=true->∃ l B,vw l0=some (.lab l 0)/\T l=some B/\B.owned=true/\∀ n,C.aT (seen vw V) l0=some n->B.aT V l=some n):=by
 have rest:(match vw l0 with
  | some (.lab l 0)=>match T l with
    | some B=>eU vw T0 T B C
    | none=>none
  | _=>none)=some ps->okB (seen vw V) w l0 C/\(∀ n,C.aT (seen vw V) l0=some n->(∃ l B,nQ vw l0=some l/\T l=some B/\B.aT V l=some n)\/(n<w0.heap.size/\¬ M n))/\(C.owned=true->∃ l B,vw l0=some (.lab l 0)/\T l=some B/\B.owned=true/\∀ n,C.aT (seen vw V) l0=some n->B.aT V l=some n):=by
  intro h
  split at h
  case h_2=>cases h
  rename_i l hl
  split at h
  case h_2=>cases h
  rename_i B hB
  obtain ⟨r1,r2,r3⟩:=LL sM hT hl hB h hp
  exact ⟨r1,fun n hn=>.inl ⟨l,B,by simp [nQ,hl],hB,r2 n hn⟩,fun ho=>⟨l,B,hl,hB,r3 ho,r2⟩⟩
 cases C with
 | gC k ys=>
   simp only [DI] at h
   split at h
   case h_2=>cases h
   rename_i u hu
   split at h
   case h_2=>cases h
   rename_i ob xs hs
   cases h
   have e:xs=ys:=hp _ dC
   subst e
   obtain ⟨x,hx⟩:=hv u hu
   obtain ⟨h1,h2⟩:=Mf hT hx hs (fun q hq=>hp q (eM _ hq))
   have hσ:(seen vw V).σ l0=some x:=(vQ hu).trans hx
   refine ⟨⟨_,rfl,x,hσ,h1⟩,fun n hn=>?_,fun h=>by cases h⟩
   simp only [SB.aT,hσ,lI] at hn
   rcases h2 n hn with ⟨l,B,g1,g2,g3⟩ | g
   .exact .inl ⟨l,B,by simp [nQ,hu,g1],g2,g3⟩
   .exact .inr g
 | rC ys=>
   simp only [DI] at h
   split at h
   case h_2=>cases h
   rename_i u hu
   split at h
   case h_2=>cases h
   rename_i xs hs
   cases h
   have e:xs=ys:=hp _ dC
   subst e
   obtain ⟨x,hx⟩:=hv u hu
   obtain ⟨h1,h2⟩:=Ct hT hx hs
   have hσ:(seen vw V).σ l0=some x:=(vQ hu).trans hx
   refine ⟨⟨_,rfl,x,hσ,h1⟩,fun n hn=>?_,fun h=>by cases h⟩
   simp only [SB.aT,hσ,lI] at hn
   obtain ⟨l,B,g1,g2,g3⟩:=h2 n hn
   exact .inl ⟨l,B,by simp [nQ,hu,g1],g2,g3⟩
 | eK=>exact rest h
 | own=>exact rest h
 | ints=>exact rest h
 | eQ=>exact rest h
 | nT=>exact rest h
 | dF=>exact rest h
 | fQ=>exact rest h
 | row=>exact rest h
 | eN=>exact rest h
 | gone=>exact rest h
def TH (vw:Vw) (T0:List (Nat × SB)) (T:aX):List (Nat × SB)->Option (List Prop)
 | []=>some []
 | (l0,B0)::r=>match DI vw T0 T l0 B0,TH vw T0 T r with
   | some a,some b=>some (a++b)
   | _,_=>none
theorem Wc {vw:Vw} {T0:List (Nat × SB)}:∀ {r:List (Nat × SB)} {ps:List Prop},TH vw T0 T r=some ps->(∀ q∈ps,q)->∀ l0 B0,look l0 r=some B0->∃ QN,DI vw T0 T l0 B0=some QN/\∀ q∈QN,q
 | [],_,_,_,l0,B0,hl=>by cases hl
 | (k,C)::r,ps,h,hp,l0,B0,hl=>by
   simp only [TH] at h
   split at h
   case h_2=>cases h
   rename_i a b ha hb
   cases h
   by_cases e:k=l0
   .subst e;rw [aI] at hl;cases hl;exact ⟨a,ha,jH hp⟩
   .rw [aE e] at hl;exact Wc hb (fY hp) l0 B0 hl
def aEd:Option Nat->Option Nat->Bool
 | some a,some b=>Nat.beq a b
 | _,_=>false
def aLp (vw:Vw) (T0:List (Nat × SB)):Bool:=T0.all fun p=>match p.2.owned with
 | false=>true
 | true=>T0.all fun q=>Nat.beq p.1 q.1 || !aEd (nQ vw p.1) (nQ vw q.1)
inductive Ew where
 | lab (l off:Nat)
 | arg (i:Nat)
 | sub (i j:Nat)
 | cell (l i:Nat)
 | BE (i:Nat)
def Fl (vs:List SV) (T:aX):Ew->Option Src
 | .BE i=>match vs[i]? with
   | some (.aH l s o n c)=>match T l with
     | some B=>(Rg B).map (.BE (.aH l s o n c))
     | none=>none
   | _=>none
 | .cell l i=>match T l with
   | some (.own cs _)=>(cs[i]?).map .val
   | some (.eQ cs)=>(cs[i]?).map .val
   | some (.row _ cs _)=>(cs[i]?).map .val
   | _=>none
 | .lab l off=>some (.lab l off)
 | .arg i=>(vs[i]?).map .val
 | .sub i j=>match vs[i]? with
   | some (.agg us)=>(us[j]?).map .val
   | _=>none
def Ao (vs:List SV) (T:aX):List (Nat × Ew)->Option (List (Nat × Src))
 | []=>some []
 | (l0,q)::r=>match Fl vs T q,Ao vs T r with
   | some s,some t=>some ((l0,s)::t)
   | _,_=>none
theorem Md (hT:aD w0 M V T w) {vs:List SV} {xs:List Value} (hx:aJ V vs=some xs):∀ {vl:List (Nat × Ew)} {sl:List (Nat × Src)},Ao vs T vl=some sl->∀ l0 u,look l0 sl=some (.val u)->∃ x,den V u=some x
 | [],sl,h,l0,u,hl=>by simp only [Ao,aW] at h;subst h;cases hl
 | (k,q)::r,sl,h,l0,u,hl=>by
   simp only [Ao] at h
   split at h
   case h_2=>cases h
   rename_i s t hs ht
   cases h
   by_cases e:k=l0
   .subst e
    rw [aI] at hl
    cases hl
    cases q with
    | lab l off=>cases hs
    | BE i=>
      simp only [Fl] at hs
      split at hs
      .split at hs
       .simp at hs
       .cases hs
      .cases hs
    | cell l i=>
      simp only [Fl] at hs
      split at hs
      .rename_i cs ty hB
       simp only [dH] at hs
       obtain ⟨v,hv,e⟩:=hs
       cases e
       obtain ⟨ys,hy,_⟩:=hT.ok l _ hB
       obtain ⟨x,_,h3⟩:=dR hy i u hv
       exact ⟨x,h3⟩
      .rename_i cs hB
       simp only [dH] at hs
       obtain ⟨v,hv,e⟩:=hs
       cases e
       obtain ⟨ys,hy,_⟩:=hT.ok l _ hB
       obtain ⟨x,_,h3⟩:=dR hy i u hv
       exact ⟨x,h3⟩
      .rename_i sz cs ty hB
       simp only [dH] at hs
       obtain ⟨v,hv,e⟩:=hs
       cases e
       obtain ⟨ys,hy,_⟩:=hT.ok l _ hB
       obtain ⟨x,_,h3⟩:=dR hy i u hv
       exact ⟨x,h3⟩
      .cases hs
    | arg i=>
      simp only [Fl,dH] at hs
      obtain ⟨v,hv,e⟩:=hs
      cases e
      obtain ⟨x,_,h2⟩:=dR hx i u hv
      exact ⟨x,h2⟩
    | sub i j=>
      simp only [Fl] at hs
      split at hs
      case h_2=>cases hs
      rename_i us hv
      simp only [dH] at hs
      obtain ⟨v,hv2,e⟩:=hs
      cases e
      obtain ⟨x,_,h2⟩:=dR hx i _ hv
      simp only [den,dH] at h2
      obtain ⟨ys,hy,_⟩:=h2
      obtain ⟨x,_,h3⟩:=dR hy j u hv2
      exact ⟨x,h3⟩
   .rw [aE e] at hl
    exact Md hT hx ht l0 u hl
theorem Mc {vs:List SV} {T:aX}:∀ {vl:List (Nat × Ew)} {sl:List (Nat × Src)},Ao vs T vl=some sl->∀ l0 v cs,look l0 sl=some (.BE v cs)->match v with
  | .aH l _ _ _ _=>∃ B,T l=some B/\Rg B=some cs
  | _=>True
 | [],sl,h,l0,v,cs,hl=>by simp only [Ao,aW] at h;subst h;cases hl
 | (k,q)::r,sl,h,l0,v,cs,hl=>by
   simp only [Ao] at h
   split at h
   case h_2=>cases h
   rename_i s t hs ht
   cases h
   by_cases e:k=l0
   .subst e
    rw [aI] at hl
    cases hl
    cases q <;> simp only [Fl] at hs
    .cases hs
    .simp at hs
    .split at hs
     .simp at hs
     .cases hs
    .split at hs <;> first | (cases hs;done) | (simp at hs;done)
    .split at hs
     .split at hs
      .rename_i B hB
       simp only [dH] at hs
       obtain ⟨cs',h1,h2⟩:=hs
       cases h2
       exact ⟨B,hB,h1⟩
      .cases hs
     .cases hs
   .rw [aE e] at hl
    exact Mc ht l0 v cs hl
structure Canon where
 eL:List SV
 T0:List (Nat × SB)
 vl:List (Nat × Ew)
 e0:bK
 conds:List Prop:=[]
def oO (gl:List (Nat × Nat)) (sl:List (Nat × Src)):Vw:=fun l0=>match look l0 sl with
 | some q=>some q
 | none=>match gl.any fun p=>Nat.beq p.2 l0 with
   | true=>some (.lab l0 0)
   | false=>none
def Wo (gl:List (Nat × Nat)) (F0:Nat) (c:Canon) (vw:Vw):Bool:=
 aLp vw c.T0&&(c.vl.all (fun p=>Nat.blt p.1 F0 && !gl.any fun q=>Nat.beq q.2 p.1)&&(gl.all (fun q=>Nat.blt q.2 F0) &&
  (c.T0.all (fun p=>match p.2.owned with
   | false=>true
   | true=>Nat.blt p.1 F0&&aCk (look p.1 c.e0.wr))&&(Nat.ble c.e0.new.length 8&&c.e0.wr.all fun p=>Nat.blt p.1 F0))))
def aL (gl:List (Nat × Nat)) (F0:Nat) (dec:List SV->aX->Option Canon):Sum:=fun vs T lab _=>
 match dec vs T with
 | none=>none
 | some c=>match Ao vs T c.vl with
   | none=>none
   | some sl=>match sO (oO gl sl) c.T0 T vs c.eL,TH (oO gl sl) c.T0 T c.T0,Ui (tW (oO gl sl) F0 lab) c.e0,Wo gl F0 c (oO gl sl) with
     | some p,some q,some e,true=>some { bO:=c.conds++(p++q),val:=e.val,new:=e.new,wr:=e.wr }
     | _,_,_,_=>none
theorem vW {α:Type} {f:Nat × α->Bool} {l:Nat} {v:α} {r:List (Nat × α)} (h:r.all f=true) (hl:look l r=some v):f (l,v)=true:=List.all_eq_true.1 h _ (gA hl)
theorem Cy {vs:List SV} {T:aX}:∀ {vl:List (Nat × Ew)} {sl:List (Nat × Src)},Ao vs T vl=some sl->∀ l0 s,look l0 sl=some s->∃ q,(l0,q)∈vl
 | [],sl,h,l0,s,hl=>by simp only [Ao,aW] at h;subst h;cases hl
 | (k,q)::r,sl,h,l0,s,hl=>by
   simp only [Ao] at h
   split at h
   case h_2=>cases h
   rename_i s' t hs ht
   cases h
   by_cases e:k=l0
   .subst e;exact ⟨q,dC⟩
   .rw [aE e] at hl
    obtain ⟨q,hq⟩:=Cy ht l0 s hl
    exact ⟨q,eM _ hq⟩
theorem XS {a b:Option Nat} {n:Nat} (h:aEd a b=false) (ha:a=some n):b≠some n:=by
 subst ha
 intro hb
 subst hb
 simp [aEd] at h
theorem aY {P:Program} {Γ:Env} {f:FuncId} {gl:List (Nat × Nat)} {F0:Nat} {dec:List SV->aX->Option Canon} (Xf:Γ.aO=gl)
 (h:∀ vs T c,dec vs T=some c->(∀ q∈c.conds,q)->aF P Γ f c.eL (fun l=>look l c.T0) F0 F0 c.e0):aG P Γ f (aL gl F0 dec):=by
 refine aG.Mm fun vs T lab F e he ho=>?_
 unfold aL at he
 split at he
 case h_1=>cases he
 rename_i c hc
 split at he
 case h_1=>cases he
 rename_i sl Jy
 split at he
 case h_2=>cases he
 rename_i p q e1 hp hq hb kE
 cases he
 have Ee:=jH ho
 have hpp:=jH (fY ho)
 have hqq:=fY (fY ho)
 unfold Wo at kE
 simp only [iN] at kE
 obtain ⟨k1,k2,k3,k4,k5,k6⟩:=kE
 have nU:∀ l0 s,oO gl sl l0=some s->l0<F0:=by
  intro l0 s hs
  unfold oO at hs
  split at hs
  .rename_i q0 CC
   obtain ⟨q1,hm⟩:=Cy Jy l0 _ CC
   have:=List.all_eq_true.1 k2 _ hm
   simp only [iN] at this
   simpa [Nat.blt_eq] using this.1
  .split at hs
   .rename_i aNo
    simp only [List.any_eq_true] at aNo
    obtain ⟨p,hm,he⟩:=aNo
    have:=List.all_eq_true.1 k3 p hm
    have he:=cP he
    rw [<- he]
    simpa [Nat.blt_eq] using this
   .cases hs
 have key:aF P Γ f vs T lab F e1:=by
  refine PA (vw:=oO gl sl) (h vs T c hc Ee) (fun l0 hl=>?_) (fun n l hl=>?_) (fun w0 M V w xs hT hx=>?_) (fun l0 B0 hl ho=>?_) (jX k5) (fun l0 B0 hl=>?_) hb
  .cases hv:oO gl sl l0 with
   | none=>rfl
   | some s=>have:=nU l0 s hv;omega
  .rw [Xf] at hl
   have hm:=gA hl
   unfold oO
   split
   .rename_i q0 CC
    obtain ⟨q1,hm1⟩:=Cy Jy l _ CC
    have:=List.all_eq_true.1 k2 _ hm1
    simp only [iN,Bool.not_eq_true'] at this
    have h2:=this.2
    exfalso
    have:(gl.any fun q=>Nat.beq q.2 l)=true:=List.any_eq_true.2 ⟨_,hm,Nat.beq_refl l⟩
    rw [h2] at this
    cases this
   .have:(gl.any fun p=>Nat.beq p.2 l)=true:=List.any_eq_true.2 ⟨_,hm,Nat.beq_refl l⟩
    rw [this]
  .have Pm:∀ l0 u,oO gl sl l0=some (.val u)->∃ x,den V u=some x:=by
    intro l0 u hu
    unfold oO at hu
    split at hu
    .rename_i q0 CC;cases hu;exact Md hT hx Jy l0 u CC
    .split at hu
     .cases hu
     .cases hu
   have sM:Lt T (oO gl sl):=by
    intro l0 v cs hv
    unfold oO at hv
    split at hv
    .rename_i q0 CC
     cases hv
     exact Mc Jy l0 v cs CC
    .split at hv
     .cases hv
     .cases hv
   have RL:∀ l0 B0,look l0 c.T0=some B0->okB (seen (oO gl sl) V) w l0 B0/\(∀ n,B0.aT (seen (oO gl sl) V) l0=some n->(∃ l B,nQ (oO gl sl) l0=some l/\T l=some B/\B.aT V l=some n)\/(n<w0.heap.size/\¬ M n))/\(B0.owned=true->∃ l B,oO gl sl l0=some (.lab l 0)/\T l=some B/\B.owned=true/\∀ n,B0.aT (seen (oO gl sl) V) l0=some n->B.aT V l=some n):=by
    intro l0 B0 hl
    obtain ⟨QN,h1,h2⟩:=Wc hq hqq l0 B0 hl
    exact aAi sM hT h1 h2 (Pm l0)
   refine ⟨fun ys hy=>pA sM hT hp hpp ys hy,fun l0 B0 hl=>(RL l0 B0 hl).1,fun l0 B0 l1 B1 n dI hl QA ho hn Hb=>?_,fun l0 B0 n hl ho hn=>?_⟩
   .obtain ⟨la,Ba,c1,a2,c3,Fj⟩:=(RL l0 B0 hl).2.2 ho
    have a3:=Fj n hn
    have a1:nQ (oO gl sl) l0=some la:=by simp [nQ,c1]
    rcases (RL l1 B1 QA).2.1 n Hb with ⟨lb,Bb,b1,b2,b3⟩ | hfz
    .have hd:=vW k1 hl
     simp only [ho] at hd
     have QC:=vW hd QA
     simp only [Bool.or_eq_true,Bool.not_eq_true'] at QC
     rcases QC with QC | QC
     .exact dI (cP QC)
     .have aXd:la≠lb:=fun e=>XS QC a1 (by rw [b1,e])
      exact hT.iY la Ba lb Bb n aXd a2 b2 c3 a3 b3
    .rcases hT.perm la Ba n a2 c3 a3 with QB | hm
     .have:=hfz.1;omega
     .exact hfz.2 hm
   .obtain ⟨la,Ba,c1,a2,c3,Fj⟩:=(RL l0 B0 hl).2.2 ho
    exact ⟨la,Ba,c1,a2,c3,Fj n hn⟩
  .have:=vW k4 hl
   simp only [ho,iN] at this
   refine ⟨by simpa [Nat.blt_eq] using this.1,fun hn=>?_⟩
   rw [hn] at this
   cases this.2
  .have:=vW k6 hl
   simpa [Nat.blt_eq] using this
 exact key
end
noncomputable def Xq (t:Nat) (k:IntKind) (ty:TypeId) (s:St):Option St:=match s.g.get t with
 | some (.raw (.slice none 0 0))=>match Tr.put (.buf s.nx) 64 s.g t,Tr.put (SB.dF k [] ty) 64 s.tb s.nx with
   | some g,some tb=>some { s with g:=g,tb:=tb,nx:=s.nx+1 }
   | _,_=>none
 | _=>none
noncomputable def nE:List (Nat × IntKind × TypeId)->St->Option St
 | [],s=>some s
 | (t,k,ty)::r,s=>match Xq t k ty s with
   | some s=>nE r s
   | none=>none
section
variable {P:Program} {Γ:Env} {w0:World} {M:Nat->Prop} {B:aX} {N F0:Nat} {V0:bA}
theorem Inv.Xq {t:Nat} {k:IntKind} {ty:TypeId} {s s':St} (h:Xq t k ty s=some s') {V:bA} {a:Act} {w:World} (hi:Inv P Γ w0 M B N F0 V0 s V a w):∃ V',Inv P Γ w0 M B N F0 V0 s' V' a w:=by
 unfold Sx.Xq at h
 split at h
 case h_2=>cases h
 rename_i hg
 split at h
 case h_2=>cases h
 rename_i g tb h1 h2
 cases h
 have hf:V.fresh s.nx:=hi.top.fresh
 have bU:=bA.cG hf s.nx (cT _) (by omega) (.slice none 0 0)
 have hT:St.T B { s with g:=g,tb:=tb,nx:=s.nx+1 }=fun l=>if l=s.nx then some (.dF k [] ty) else s.T B l:=by
  funext l
  simp only [St.T,Tr.gQ _ _ _ _ _ h2 l]
  by_cases e:l=s.nx
  .simp [e]
  .simp [e]
 refine ⟨V.bC s.nx (.slice none 0 0),fun m v hv=>?_,fun d v hv=>?_,hi.size,?_,?_,fun n l hl=>bU.1.1 _ _ (hi.aO n l hl),fun l hl=>?_,V0.le_trans hi.le bU.1,fun l hl=>?_,fun l hl hn=>?_,?_,fun l hl=>?_⟩
 .have hv:g.get m=some v:=hv
  rw [Tr.gQ _ _ _ _ _ h1 m] at hv
  split at hv
  .rename_i e
   cases hv
   have:=hi.tmp t _ hg
   simp only [den,aW] at this
   rw [e,<- this]
   simp [den,bA.bC]
  .exact oH bU.1 (hi.tmp m v hv)
 .have hv:g.get d=some v:=hv
  rw [Tr.gQ _ _ _ _ _ h1 d] at hv
  split at hv
  .rename_i e;subst e;exact hi.keys d _ hg
  .exact hi.keys d v hv
 .obtain ⟨xs,h3,h4⟩:=hi.defers
  exact ⟨xs,cV bU.1 h3,h4⟩
 .rw [hT]
  refine hi.eW.step (N:=fun l=>if l=s.nx then some (.dF k [] ty) else none) bU.1 (fun l C hl=>?_) (fun l C hl=>?_) (fun l C n hl hn=>?_) (fun l C l' C' n _ hl _ _ hn=>?_) (cT _) (fun _ _ _=>rfl) rfl rfl rfl
  .by_cases e:l=s.nx
   .left;simpa [e] using hl
   .right;simpa [e] using hl
  .by_cases e:l=s.nx
   .simp only [if_pos e,aW] at hl
    subst hl e
    exact ⟨[],rfl,.slice none 0 0,by simp [bA.bC],⟨rfl,.inl ⟨rfl,rfl⟩⟩,hY.nil rfl⟩
   .simp [e] at hl
  .by_cases e:l=s.nx
   .simp only [if_pos e,aW] at hl
    subst hl e
    simp [SB.aT,bA.bC,Value.ownBlock] at hn
   .simp [e] at hl
  .by_cases e:l=s.nx
   .simp only [if_pos e,aW] at hl
    subst hl e
    simp [SB.aT,bA.bC,Value.ownBlock] at hn
   .simp [e] at hl
 .have hl:s.nx+1<=l:=hl
  obtain ⟨e1,e2⟩:=hi.top l (by omega)
  exact ⟨e1,by simp only [bA.bC];rw [if_neg (by omega)];exact e2⟩
 .have dI:l≠s.nx:=by have:=hi.nx;omega
  refine ⟨(hi.low l hl).1,?_⟩
  simp only [bA.bC,if_neg dI]
  exact (hi.low l hl).2
 .have dI:l≠s.nx:=by have:=hi.nx;omega
  show tb.get l=none
  rw [Tr.gQ _ _ _ _ _ h2 l,if_neg dI]
  exact hi.ch l hl hn
 .have:=hi.nx
  show F0<=s.nx+1
  omega
 .have hl:s.nx+1<=l:=hl
  rw [hT]
  simp only
  rw [if_neg (by omega)]
  exact hi.hi l (by omega)
theorem Inv.nE:∀ {l:List (Nat × IntKind × TypeId)} {s s':St},nE l s=some s'->∀ {V:bA} {a:Act} {w:World},Inv P Γ w0 M B N F0 V0 s V a w->∃ V',Inv P Γ w0 M B N F0 V0 s' V' a w
 | [],s,s',h,V,a,w,hi=>by simp only [Sx.nE,aW] at h;subst h;exact ⟨V,hi⟩
 | (t,k,ty)::r,s,s',h,V,a,w,hi=>by
   simp only [Sx.nE] at h
   split at h
   .rename_i s1 h1
    obtain ⟨V1,Xe⟩:=hi.Xq h1
    exact Inv.nE h Xe
   .cases h
noncomputable def toN (F0:Nat) (B:aX) (El:List (Nat × IntKind × TypeId)) (fG:List Nat) (gs:List (Nat × SV)) (tb:List (Nat × SB)) (nx:Nat) (ws:List Nat) (df:List SV) (r:Option nM):Option (Cf × List Fr × List Prop):=match r with
 | some r=>match nE El r.st with
   | some s=>BP F0 B fG gs tb nx ws df (some ⟨r.cf,r.fr,s⟩)
   | none=>none
 | none=>none
theorem Mn:∀ {l:List (Nat × IntKind × TypeId)} {s s':St},nE l s=some s'->s'.ob=s.ob
 | [],s,s',h=>by simp only [nE,aW] at h;subst h;rfl
 | (t,k,ty)::r,s,s',h=>by
   simp only [nE] at h
   split at h
   .rename_i s1 h1
    rw [Mn h]
    unfold Xq at h1
    split at h1
    .split at h1
     .cases h1;rfl
     .cases h1
    .cases h1
   .cases h
theorem G.toN (aU:cD P Γ) (aV:cF P Γ) (gZ:P.follows .mixedOrders=true) (hb:nP Γ B F0 V0) {stops:List Nat} {lf n:Nat} {cf Of:Cf} {K K':List Fr} {s:St} (hs:List Bool) {El:List (Nat × IntKind × TypeId)} {fG:List Nat} {gs:List (Nat × SV)} {tb:List (Nat × SB)} {nx:Nat} {ws:List Nat} {df:List SV} {ps:List Prop} {Q:Exit->Act->World->Prop}
 (h:toN F0 B El fG gs tb nx ws df (fX Γ B F0 N stops lf n cf K (s.hint hs))=some (Of,K',ps)) (hp:∀ q∈ps,q) (hG:G P Γ w0 M B N F0 V0 Of K' (bQ gs tb nx ws df) Q):G P Γ w0 M B N F0 V0 cf K s Q:=by
 unfold Sx.toN at h
 split at h
 case h_2=>cases h
 rename_i r hr
 split at h
 case h_2=>cases h
 rename_i s0 h0
 unfold BP at h
 simp only at h
 split at h
 case h_2=>cases h
 rename_i s1 h1
 split at h
 case h_2=>cases h
 rename_i QN h2
 cases h
 have rT:=Mn h0
 have dY:G P Γ w0 M B N F0 V0 cf K (s.hint hs) Q:=by
  refine G.run aU aV gZ hr (fun q hq=>hp q (List.mem_append_left _ (rT ▸ hq))) ?_
  intro V a w hi
  obtain ⟨V1,Xe⟩:=Inv.nE h0 hi
  obtain ⟨V2,Tj⟩:=Xe.norm hb h1
  exact hG V2 a w (Tj.cast hb h2 (fY hp))
 intro V a w hi
 exact dY V a w (hi.hints s.ob hs)
mutual
def EU:SV->SV->List (Nat × Nat)
 | .ptr l _ _,.ptr l' _ _=>[(l',l)]
 | .aH l _ _ _ _,.aH l' _ _ _ _=>[(l',l)]
 | .dJ l _ _ _,.dJ l' _ _ _=>[(l',l)]
 | .buf l,.buf l'=>[(l',l)]
 | .iZ l _,.iZ l' _=>[(l',l)]
 | .mG l _ _,.mG l' _ _=>[(l',l)]
 | .iH l _,.iH l' _=>[(l',l)]
 | .pX _ v,.pX _ v'=>EU v v'
 | .agg vs,.agg us=>yA vs us
 | .eD vs,.eD us=>yA vs us
 | .fn _ xs ys,.fn _ us vs=>yA xs us++yA ys vs
 | _,_=>[]
def yA:List SV->List SV->List (Nat × Nat)
 | v::r,u::t=>EU v u++yA r t
 | _,_=>[]
end
def EV (g:Nat->Option SV):List (Nat × SV)->List (Nat × Nat)
 | []=>[]
 | (t,u)::r=>match g t with
   | some v=>EU v u++EV g r
   | none=>EV g r
def Fq (g:Nat->Option SB) (ps:List (Nat × Nat)):List (Nat × SB)->List (Nat × Nat)
 | []=>[]
 | (l,B)::r=>match B,look l ps with
   | .own us _,some k=>match g k with
     | some (.own vs _)=>yA vs us++Fq g ps r
     | _=>Fq g ps r
   | .own us _,none=>match g l with
     | some (.own vs _)=>yA vs us++Fq g ps r
     | _=>Fq g ps r
   | _,_=>Fq g ps r
def Ch (g:Nat->Option SB) (ps:List (Nat × Nat)):List (Nat × SB)->List (Nat × Nat)
 | []=>[]
 | (l,B)::r=>match B,look l ps with
   | .own us _,some k=>match g k with
     | some (.own vs _)=>yA vs us++Ch g ps r
     | _=>Ch g ps r
   | _,_=>Ch g ps r
def IG (ps:List (Nat × Nat)) (l:Nat):Nat->List Nat
 | 0=>[]
 | n+1=>(look l ps).getD 0::IG ps (l+1) n
noncomputable def aQy (F0:Nat) (gs:List (Nat × SV)) (tb:List (Nat × SB)) (nx:Nat) (s:St):List Nat:=
 let p1:=EV s.g.get gs
 let p2:=p1++Ch s.tb.get p1 tb
 let p3:=p2++Ch s.tb.get p2 tb
 let p4:=p3++Fq s.tb.get p3 tb
 IG p4 F0 (nx-F0)
noncomputable def xV (F0:Nat) (B:aX) (El:List (Nat × IntKind × TypeId)) (gs:List (Nat × SV)) (tb:List (Nat × SB)) (nx:Nat) (ws:List Nat) (df:List SV) (r:Option nM):Option (Cf × List Fr × List Prop):=match r with
 | some r=>match nE El r.st with
   | some s=>toN F0 B El (aQy F0 gs tb nx s) gs tb nx ws df (some r)
   | none=>none
 | none=>none
theorem G.xV (aU:cD P Γ) (aV:cF P Γ) (gZ:P.follows .mixedOrders=true) (hb:nP Γ B F0 V0) {stops:List Nat} {lf n:Nat} {cf Of:Cf} {K K':List Fr} {s:St} (hs:List Bool) {El:List (Nat × IntKind × TypeId)} {gs:List (Nat × SV)} {tb:List (Nat × SB)} {nx:Nat} {ws:List Nat} {df:List SV} {ps:List Prop} {Q:Exit->Act->World->Prop}
 (h:xV F0 B El gs tb nx ws df (fX Γ B F0 N stops lf n cf K (s.hint hs))=some (Of,K',ps)) (hp:∀ q∈ps,q) (hG:G P Γ w0 M B N F0 V0 Of K' (bQ gs tb nx ws df) Q):G P Γ w0 M B N F0 V0 cf K s Q:=by
 unfold Sx.xV at h
 split at h
 case h_2=>cases h
 rename_i r hr
 split at h
 case h_2=>cases h
 rename_i s0 h0
 exact G.toN aU aV gZ hb hs (stops:=stops) (lf:=lf) (n:=n) (by rw [hr];exact h) hp hG
theorem G.kR (aU:cD P Γ) (aV:cF P Γ) (gZ:P.follows .mixedOrders=true) (hb:nP Γ B F0 V0) {stops:List Nat} {lf n:Nat} {cf:Cf} {K1 K:List Fr} {s:St} (hs:List Bool) {El:List (Nat × IntKind × TypeId)} {gs:List (Nat × SV)} {tb:List (Nat × SB)} {nx:Nat} {ws:List Nat} {df:List SV} {ps:List Prop} {Q:Exit->Act->World->Prop} {S:Nat->St->Prop} {r:Nat}
 (h:Sx.xV F0 B El gs tb nx ws df (fX Γ B F0 N stops lf n cf K1 (s.hint hs))=some (.at .normal,[],ps)) (hp:∀ q∈ps,q) (r':Nat) (cM:r'<r) (hS:S r' (bQ gs tb nx ws df)) :
 G P Γ w0 M B N F0 V0 cf K1 s (Exit.then (fun a w=>∃ r',r'<r/\∃ s',S r' s'/\∃ V,Inv P Γ w0 M B N F0 V0 s' V a w) (KQ P K Q)):=
 G.xV aU aV gZ hb hs h hp (G.again fun V _ _ hi=>⟨r',cM,_,hS,V,hi⟩)
end
theorem WY {α:Type} (tm:Array α) (t:Nat) (d:α):tm.setIfInBounds t (tm.getD t d)=tm:=by
 apply Array.ext
 .simp
 .intro i h1 h2
  rw [Array.getElem_setIfInBounds (by simpa using h1)]
  split
  .rename_i e;subst e;simp [Array.getD_eq_getD_getElem?,h2]
  .rfl
theorem Act.kJ (a:Act) (t:Tmp):a.put (some t) (a.eval (.tmp t))=a:=by
 obtain ⟨tm,df⟩:=a
 show Act.mk (tm.setIfInBounds t (tm.getD t undef)) df=_
 rw [WY]
section
variable {w0 w:World} {M:Nat->Prop} {V:bA} {T:aX} {lab:Nat}
theorem aD.close (h:aD w0 M V T w) (hf:V.fresh lab) (kO:∀ k,lab<=k->T k=none) {l cap n m:Nat} {cells:List SV} {el:TypeId} (hl:T l=some (.own cells el)) (hc:cells.length=cap) (hm:m<=cap) (qE:cap<=1000000) {lb:Nat} {cs:List SV} {ty:TypeId} {i:Nat}
 (hb:T lb=some (.own cs ty)) (hi:cs[i]?=some (.aH l true 0 n cap)) (dI:l≠lb) (v:SV) :
 ∃ V',V.ext lab V'/\aD w0 M V' (eT T lab { val:=v,new:=[.row 1 (cells.take m) el],wr:=[(l,.gone),(lb,.own (cs.set i (.dJ lab 0 n 0)) ty)] }) w:=by
 obtain ⟨us,Dy,b,hβ,hh⟩:=h.ok l _ hl
 obtain ⟨xs,nL,b2,mB,QZ⟩:=h.ok lb _ hb
 have cM:l<lab:=Nat.lt_of_not_le fun q=>by rw [kO l q] at hl;cases hl
 have SW:lb<lab:=Nat.lt_of_not_le fun q=>by rw [kO lb q] at hb;cases hb
 have bU:V.ext lab ((V.put lab (b,0)).bC lab (.int .i64 (cap:Nat))):=by
  have h1:=bA.kB hf lab (cT _) (by omega) (b,0)
  refine ⟨⟨fun k p hp=>h1.1.1 k p hp,fun k p hp=>?_⟩,fun k hk=>⟨(h1.2 k hk).1,?_⟩⟩
  .simp only [bA.bC]
   by_cases e:k=lab
   .subst e;rw [(hf k (cT _) (by omega)).2] at hp;cases hp
   .rw [if_neg e];exact hp
  .simp only [bA.bC]
   rw [if_neg (by omega)]
   rfl
 refine ⟨_,bU,?_⟩
 obtain ⟨V',Od⟩:∃ V',V'=(V.put lab (b,0)).bC lab (.int .i64 (cap:Nat)):=⟨_,rfl⟩
 rw [<- Od] at bU |-
 have e1:V'.β lab=some (b,0):=by rw [Od];simp [bA.put,bA.bC]
 have e2:V'.σ lab=some (.int .i64 (cap:Nat)):=by rw [Od];simp [bA.bC]
 have yB:us.length=cap:=by rw [bH Dy,hc]
 have Xg:b≠b2:=by
  intro e
  exact h.iY l _ lb _ b dI hl hb rfl (by simp [SB.aT,hβ]) (by simp [SB.aT,mB,e])
 have oP:aJ V' (cs.set i (.dJ lab 0 n 0))=some xs:=by
  have fW:aJ V' cs=some xs:=cV bU.1 nL
  obtain ⟨x,mW,Ha⟩:=dR fW i _ hi
  have hx4:den V' (.dJ lab 0 n 0)=some x:=by
   simp only [den,bU.1.1 _ _ hβ,gL,aW] at Ha
   rw [<- Ha]
   simp [den,e1,e2,qJ]
  have gen:∀ (cs:List SV) (xs:List Value) (i:Nat),aJ V' cs=some xs->xs[i]?=some x->aJ V' (cs.set i (.dJ lab 0 n 0))=some xs:=by
   intro cs
   induction cs with
   | nil=>intro xs i h1 h2;simpa using h1
   | cons c r ih=>
     intro xs i h1 h2
     simp only [aJ,dH,gM] at h1
     obtain ⟨y,hy,ys,pY,rfl⟩:=h1
     cases i with
     | zero=>
       simp only [List.getElem?_cons_zero,aW] at h2
       subst h2
       simp only [List.set_cons_zero,aJ,hx4,pY,lI,gL]
     | succ i=>
       simp only [List.getElem?_cons_succ] at h2
       simp only [List.set_cons_succ,aJ,hy,ih ys i pY h2,lI,gL]
  exact gen cs xs i fW mW
 refine h.step (N:=fun k=>if k=lab then some (.row 1 (cells.take m) el) else if k=l then some .gone else if k=lb then some (.own (cs.set i (.dJ lab 0 n 0)) ty) else none) bU.1 (fun k C hk=>?_) (fun k C hk=>?_) (fun k C p hk hp=>?_) (fun k C k' C' p yY hk gX ho hp=>?_) (cT _) (fun _ _ _=>rfl) rfl rfl rfl
 .simp only [eT,bK.eW,gE,List.cons_append,mZ] at hk
  by_cases k1:l=k
  .subst k1
   rw [aI] at hk
   left
   simp only [if_neg (show ¬ l=lab by omega),if_true]
   simpa using hk
  .rw [aE k1] at hk
   by_cases k2:lb=k
   .subst k2
    rw [aI] at hk
    left
    simp only [if_neg (show ¬ lb=lab by omega),if_neg (fun q=>dI (Eq.symm q)),if_true]
    simpa using hk
   .rw [aE k2] at hk
    by_cases k3:lab=k
    .subst k3;rw [aI] at hk;left;simpa using hk
    .rw [aE k3] at hk
     right
     simp only [look] at hk
     exact ⟨by rw [if_neg (fun q=>k3 q.symm),if_neg (fun q=>k1 q.symm),if_neg (fun q=>k2 q.symm)],hk⟩
 .by_cases k1:k=lab
  .rw [if_pos k1] at hk
   cases hk
   subst k1
   refine ⟨us.take m,by simp only [SB.cells];exact cV bU.1 (dW m Dy),b,cap,us.toArray,e1,e2,hh,?_,by simp [yB],⟨m,by simp [yB];omega,hm⟩,by simp⟩
   have:(1000000:Nat)<=maxLen:=by decide
   omega
  .rw [if_neg k1] at hk
   by_cases k2:k=l
   .rw [if_pos k2] at hk;cases hk;exact ⟨[],rfl,trivial⟩
   .rw [if_neg k2] at hk
    by_cases k3:k=lb
    .rw [if_pos k3] at hk
     cases hk
     subst k3
     exact ⟨xs,oP,b2,bU.1.1 _ _ mB,QZ⟩
    .rw [if_neg k3] at hk;cases hk
 .by_cases k1:k=lab
  .rw [if_pos k1] at hk
   cases hk
   subst k1
   simp only [SB.aT,e1,gL,aW] at hp
   subst hp
   right;left
   exact ⟨l,_,hl,rfl,by simp [SB.aT,hβ],by simp [if_neg (show ¬ l=k by omega)]⟩
  .rw [if_neg k1] at hk
   by_cases k2:k=l
   .rw [if_pos k2] at hk;cases hk;cases hp
   .rw [if_neg k2] at hk
    by_cases k3:k=lb
    .rw [if_pos k3] at hk
     cases hk
     subst k3
     simp only [SB.aT,bU.1.1 _ _ mB,gL,aW] at hp
     subst hp
     right;left
     exact ⟨k,_,hb,rfl,by simp [SB.aT,mB],by simp [if_neg k1,if_neg k2]⟩
    .rw [if_neg k3] at hk;cases hk
 .have aT:∀ k C p,(if k=lab then some (SB.row 1 (cells.take m) el) else if k=l then some .gone else if k=lb then some (.own (cs.set i (.dJ lab 0 n 0)) ty) else none)=some C->C.aT V' k=some p->(k=lab/\p=b)\/(k=lb/\p=b2):=by
   intro k C p hk hp
   by_cases k1:k=lab
   .rw [if_pos k1] at hk
    cases hk
    subst k1
    simp only [SB.aT,e1,gL,aW] at hp
    exact .inl ⟨rfl,hp.symm⟩
   .rw [if_neg k1] at hk
    by_cases k2:k=l
    .rw [if_pos k2] at hk;cases hk;cases hp
    .rw [if_neg k2] at hk
     by_cases k3:k=lb
     .rw [if_pos k3] at hk
      cases hk
      subst k3
      simp only [SB.aT,bU.1.1 _ _ mB,gL,aW] at hp
      exact .inr ⟨rfl,hp.symm⟩
     .rw [if_neg k3] at hk;cases hk
  intro Oq
  rcases aT k C p hk hp with ⟨r1,r2⟩ | ⟨r1,r2⟩ <;> rcases aT k' C' p gX Oq with ⟨r3,r4⟩ | ⟨r3,r4⟩
  .omega
  .exact Xg (r2.symm.trans r4)
  .exact Xg (r4.symm.trans r2)
  .omega
theorem aD.aLr (h:aD w0 M V T w) (hf:V.fresh lab) (kO:∀ k,lab<=k->T k=none) {l cap n m:Nat} {cells:List SV} {el:TypeId} (hl:T l=some (.own cells el)) (hc:cells.length=cap) (hm:m<=cap) (qE:cap<=1000000) {x:Value} (hx:den V (.aH l true 0 n cap)=some x) :
 ∃ V',V.ext lab V'/\den V' (.dJ lab 0 n 0)=some x/\aD w0 M V' (eT T lab { val:=.dJ lab 0 n 0,new:=[.row 1 (cells.take m) el],wr:=[(l,.gone)] }) w:=by
 obtain ⟨us,Dy,b,hβ,hh⟩:=h.ok l _ hl
 have cM:l<lab:=Nat.lt_of_not_le fun q=>by rw [kO l q] at hl;cases hl
 have bU:V.ext lab ((V.put lab (b,0)).bC lab (.int .i64 (cap:Nat))):=by
  have h1:=bA.kB hf lab (cT _) (by omega) (b,0)
  refine ⟨⟨fun k p hp=>h1.1.1 k p hp,fun k p hp=>?_⟩,fun k hk=>⟨(h1.2 k hk).1,?_⟩⟩
  .simp only [bA.bC]
   by_cases e:k=lab
   .subst e;rw [(hf k (cT _) (by omega)).2] at hp;cases hp
   .rw [if_neg e];exact hp
  .simp only [bA.bC]
   rw [if_neg (by omega)]
   rfl
 refine ⟨_,bU,?_⟩
 obtain ⟨V',Od⟩:∃ V',V'=(V.put lab (b,0)).bC lab (.int .i64 (cap:Nat)):=⟨_,rfl⟩
 rw [<- Od] at bU |-
 have e1:V'.β lab=some (b,0):=by rw [Od];simp [bA.put,bA.bC]
 have e2:V'.σ lab=some (.int .i64 (cap:Nat)):=by rw [Od];simp [bA.bC]
 have yB:us.length=cap:=by rw [bH Dy,hc]
 refine ⟨?_,?_⟩
 .simp only [den,hβ,gL,aW] at hx
  rw [<- hx]
  simp [den,e1,e2,qJ]
 refine h.step (N:=fun k=>if k=lab then some (.row 1 (cells.take m) el) else if k=l then some .gone else none) bU.1 (fun k C hk=>?_) (fun k C hk=>?_) (fun k C p hk hp=>?_) (fun k C k' C' p yY hk gX ho hp=>?_) (cT _) (fun _ _ _=>rfl) rfl rfl rfl
 .simp only [eT,bK.eW,gE,List.cons_append,mZ] at hk
  by_cases k1:l=k
  .subst k1
   rw [aI] at hk
   left
   simp only [if_neg (show ¬ l=lab by omega),if_true]
   simpa using hk
  .rw [aE k1] at hk
   by_cases k3:lab=k
   .subst k3;rw [aI] at hk;left;simpa using hk
   .rw [aE k3] at hk
    right
    simp only [look] at hk
    exact ⟨by rw [if_neg (fun q=>k3 q.symm),if_neg (fun q=>k1 q.symm)],hk⟩
 .by_cases k1:k=lab
  .rw [if_pos k1] at hk
   cases hk
   subst k1
   refine ⟨us.take m,by simp only [SB.cells];exact cV bU.1 (dW m Dy),b,cap,us.toArray,e1,e2,hh,?_,by simp [yB],⟨m,by simp [yB];omega,hm⟩,by simp⟩
   have:(1000000:Nat)<=maxLen:=by decide
   omega
  .rw [if_neg k1] at hk
   by_cases k2:k=l
   .rw [if_pos k2] at hk;cases hk;exact ⟨[],rfl,trivial⟩
   .rw [if_neg k2] at hk;cases hk
 .by_cases k1:k=lab
  .rw [if_pos k1] at hk
   cases hk
   subst k1
   simp only [SB.aT,e1,gL,aW] at hp
   subst hp
   right;left
   exact ⟨l,_,hl,rfl,by simp [SB.aT,hβ],by simp [if_neg (show ¬ l=k by omega)]⟩
  .rw [if_neg k1] at hk
   by_cases k2:k=l
   .rw [if_pos k2] at hk;cases hk;cases hp
   .rw [if_neg k2] at hk;cases hk
 .intro Oq
  by_cases k1:k=lab
  .by_cases k2:k'=lab
   .omega
   .rw [if_neg k2] at gX
    by_cases k3:k'=l
    .rw [if_pos k3] at gX;cases gX;cases Oq
    .rw [if_neg k3] at gX;cases gX
  .rw [if_neg k1] at hk
   by_cases k3:k=l
   .rw [if_pos k3] at hk;cases hk;cases ho
   .rw [if_neg k3] at hk;cases hk
theorem aD.aLs (h:aD w0 M V T w) (hf:V.fresh lab) (kO:∀ k,lab<=k->T k=none) {l cap n:Nat} {cells:List SV} {el:TypeId} {k0:IntKind} {ns:List Int} (hl:T l=some (.own cells el)) (hc:cells.length=cap) (hn:n<=cap) (qE:cap<=1000000) (hk:cU k0 (cells.take n)=some ns) (fR:(cU k0 cells).isSome=true) {x:Value} (hx:den V (.aH l true 0 n cap)=some x) :
 ∃ V',V.ext lab V'/\den V' (.buf lab)=some x/\aD w0 M V' (eT T lab { val:=.buf lab,new:=[.dF k0 ns el],wr:=[(l,.gone)] }) w:=by
 obtain ⟨us,Dy,b,hβ,hh⟩:=h.ok l _ hl
 have cM:l<lab:=Nat.lt_of_not_le fun q=>by rw [kO l q] at hl;cases hl
 have bU:=bA.cG hf lab (cT _) (by omega) x
 have e2:(V.bC lab x).σ lab=some x:=by simp [bA.bC]
 have yB:us.length=cap:=by rw [bH Dy,hc]
 have hx':x = .slice (some ⟨b,0,none⟩) n cap:=by
  simp only [den,hβ,gL,aW] at hx
  exact hx.symm
 have dG:us.take n=ns.map (Value.int k0):=by
  have h1:=dW n Dy
  have h2:=cS (V:=V) hk
  rw [h1] at h2
  exact Option.some.inj h2
 have FU:ns.length=n:=by
  have:=congrArg List.length dG
  simp [yB] at this
  omega
 refine ⟨_,bU,by simp [den,e2],?_⟩
 refine h.step (N:=fun k=>if k=lab then some (.dF k0 ns el) else if k=l then some .gone else none) bU.1 (fun k C hk=>?_) (fun k C hk=>?_) (fun k C p hk hp=>?_) (fun k C k' C' p yY hk gX ho hp=>?_) (cT _) (fun _ _ _=>rfl) rfl rfl rfl
 .simp only [eT,bK.eW,gE,List.cons_append,mZ] at hk
  by_cases k1:l=k
  .subst k1
   rw [aI] at hk
   left
   simp only [if_neg (show ¬ l=lab by omega),if_true]
   simpa using hk
  .rw [aE k1] at hk
   by_cases k3:lab=k
   .subst k3;rw [aI] at hk;left;simpa using hk
   .rw [aE k3] at hk
    right
    simp only [look] at hk
    exact ⟨by rw [if_neg (fun q=>k3 q.symm),if_neg (fun q=>k1 q.symm)],hk⟩
 .by_cases k1:k=lab
  .rw [if_pos k1] at hk
   cases hk
   subst k1
   refine ⟨_,rfl,x,e2,⟨by simp,.inr ⟨b,cap,us.toArray,?_,Nat.zero_le _,hh,by rw [FU];exact hn,?_,by simp [yB],?_⟩⟩,fun b' iL=>?_⟩
   .rw [hx',FU]
   .have:(1000000:Nat)<=maxLen:=by decide
    omega
   .rw [FU,<- dG];simp
   .rw [hx'] at iL
    cases iL
    obtain ⟨ms,Ot⟩:=Option.isSome_iff_exists.1 fR
    have h2:=cS (V:=V) Ot
    have aWq:aJ V cells=some us:=Dy
    rw [aWq] at h2
    cases h2
    refine ⟨_,_,_,hh,fun q hq=>?_⟩
    obtain ⟨n,_,rfl⟩:=List.mem_map.1 (by simpa using hq)
    exact ⟨n,rfl⟩
  .rw [if_neg k1] at hk
   by_cases k2:k=l
   .rw [if_pos k2] at hk;cases hk;exact ⟨[],rfl,trivial⟩
   .rw [if_neg k2] at hk;cases hk
 .by_cases k1:k=lab
  .rw [if_pos k1] at hk
   cases hk
   subst k1
   simp only [SB.aT,e2,lI] at hp
   rw [hx'] at hp
   simp only [Value.ownBlock,aW] at hp
   subst hp
   right;left
   exact ⟨l,_,hl,rfl,by simp [SB.aT,hβ],by simp [if_neg (show ¬ l=k by omega)]⟩
  .rw [if_neg k1] at hk
   by_cases k2:k=l
   .rw [if_pos k2] at hk;cases hk;cases hp
   .rw [if_neg k2] at hk;cases hk
 .intro Oq
  by_cases k1:k=lab
  .by_cases k2:k'=lab
   .omega
   .rw [if_neg k2] at gX
    by_cases k3:k'=l
    .rw [if_pos k3] at gX;cases gX;cases Oq
    .rw [if_neg k3] at gX;cases gX
  .rw [if_neg k1] at hk
   by_cases k3:k=l
   .rw [if_pos k3] at hk;cases hk;cases ho
   .rw [if_neg k3] at hk;cases hk
theorem aD.aMc (hT:aD w0 M V T w) (hf:V.fresh lab) {l n:Nat} {k:IntKind} {xs:List Int} (hB:T l=some (.gC k xs)) {x:Value} (hx:den V (.iH l n)=some x) :
 ∃ V',V.ext lab V'/\den V' (.iH lab n)=some x/\aD w0 M V' (eT T lab { val:=.iH lab n,new:=[.gC k xs] }) w:=by
 simp only [den,gM] at hx
 obtain ⟨v,hσ,ex⟩:=hx
 obtain ⟨cs,hc,v',gN,bT⟩:=hT.ok l _ hB
 rw [hσ] at gN
 cases gN
 have bU:=bA.cG hf lab (cT _) (by omega) v
 refine ⟨V.bC lab v,bU,by simp [den,bA.bC,ex],?_⟩
 refine hT.step (N:=fun m=>if m=lab then some (.gC k xs) else none) bU.1 (fun m C hm=>?_) (fun m C hm=>?_) (fun m C q hm hq=>?_) (fun m C m' C' q dI hm kM tP _=>?_) (cT _) (fun _ _ _=>rfl) rfl rfl rfl
 .unfold eT bK.eW at hm
  simp only [gE,mZ,look] at hm
  by_cases e:m=lab
  .subst e
   left
   simpa using hm
  .right
   refine ⟨if_neg e,?_⟩
   have:Nat.beq lab m=false:=by
    cases lA:Nat.beq lab m with
    | false=>rfl
    | true=>exact absurd (cP lA).symm e
   simpa [this] using hm
 .split at hm
  .rename_i e
   subst e
   cases hm
   exact ⟨cs,hc,v,by simp [bA.bC],bT⟩
  .cases hm
 .split at hm
  .rename_i e
   subst e
   cases hm
   refine .inr (.inr ⟨rfl,fun l2 B2 hn2 rU tP lA=>?_⟩)
   simp only [SB.aT,bA.bC,if_pos,lI] at hq
   have dI:l2≠l:=fun e=>by subst e;rw [hB] at rU;cases rU;cases tP
   exact hT.iY l2 B2 l _ q dI rU hB tP lA (by simp [SB.aT,hσ,hq])
  .cases hm
 .split at hm
  .cases hm;cases tP
  .cases hm
theorem oI {V:bA} {x:Value} {v:SV} (hv:den V v=some x):∀ (cs:List SV) (xs:List Value) (i:Nat),aJ V cs=some xs->xs[i]?=some x->aJ V (cs.set i v)=some xs
 | [],xs,i,h1,h2=>by simpa using h1
 | c::r,xs,i,h1,h2=>by
   simp only [aJ,dH,gM] at h1
   obtain ⟨y,hy,ys,pY,rfl⟩:=h1
   cases i with
   | zero=>
     simp only [List.getElem?_cons_zero,aW] at h2
     subst h2
     simp only [List.set_cons_zero,aJ,hv,pY,lI,gL]
   | succ i=>
     simp only [List.getElem?_cons_succ] at h2
     simp only [List.set_cons_succ,aJ,hy,oI hv r ys i pY h2,lI,gL]
theorem aD.aVl (h:aD w0 M V T w) (hf:V.fresh lab) (kO:∀ k,lab<=k->T k=none) {lb:Nat} {cs:List SV} {ty el:TypeId} {k0:IntKind} {i:Nat}
 (hb:T lb=some (.own cs ty)) (hi:cs[i]?=some (.raw (.slice none 0 0))) (v:SV) :
 ∃ V',V.ext lab V'/\aD w0 M V' (eT T lab { val:=v,new:=[.dF k0 [] el],wr:=[(lb,.own (cs.set i (.buf lab)) ty)] }) w:=by
 obtain ⟨xs,nL,b2,mB,QZ⟩:=h.ok lb _ hb
 have SW:lb<lab:=Nat.lt_of_not_le fun q=>by rw [kO lb q] at hb;cases hb
 have bU:=bA.cG hf lab (cT _) (by omega) (.slice none 0 0)
 refine ⟨_,bU,?_⟩
 have e2:(V.bC lab (.slice none 0 0)).σ lab=some (.slice none 0 0):=by simp [bA.bC]
 have oP:aJ (V.bC lab (.slice none 0 0)) (cs.set i (.buf lab))=some xs:=by
  have fW:aJ (V.bC lab (.slice none 0 0)) cs=some xs:=cV bU.1 nL
  obtain ⟨x,mW,Ha⟩:=dR fW i _ hi
  simp only [den,aW] at Ha
  exact oI (by rw [<- Ha];simp [den,e2]) cs xs i fW mW
 refine h.step (N:=fun k=>if k=lab then some (.dF k0 [] el) else if k=lb then some (.own (cs.set i (.buf lab)) ty) else none) bU.1 (fun k C hk=>?_) (fun k C hk=>?_) (fun k C p hk hp=>?_) (fun k C k' C' p yY hk gX ho hp=>?_) (cT _) (fun _ _ _=>rfl) rfl rfl rfl
 .simp only [eT,bK.eW,gE,List.cons_append,mZ] at hk
  by_cases k2:lb=k
  .subst k2
   rw [aI] at hk
   left
   simp only [if_neg (show ¬ lb=lab by omega),if_true]
   simpa using hk
  .rw [aE k2] at hk
   by_cases k3:lab=k
   .subst k3;rw [aI] at hk;left;simpa using hk
   .rw [aE k3] at hk
    right
    simp only [look] at hk
    exact ⟨by rw [if_neg (fun q=>k3 q.symm),if_neg (fun q=>k2 q.symm)],hk⟩
 .by_cases k1:k=lab
  .rw [if_pos k1] at hk
   cases hk
   subst k1
   exact ⟨[],rfl,_,e2,⟨rfl,.inl ⟨rfl,rfl⟩⟩,hY.nil rfl⟩
  .rw [if_neg k1] at hk
   by_cases k3:k=lb
   .rw [if_pos k3] at hk
    cases hk
    subst k3
    exact ⟨xs,oP,b2,bU.1.1 _ _ mB,QZ⟩
   .rw [if_neg k3] at hk;cases hk
 .by_cases k1:k=lab
  .rw [if_pos k1] at hk
   cases hk
   subst k1
   simp [SB.aT,e2,Value.ownBlock] at hp
  .rw [if_neg k1] at hk
   by_cases k3:k=lb
   .rw [if_pos k3] at hk
    cases hk
    subst k3
    simp only [SB.aT,bU.1.1 _ _ mB,gL,aW] at hp
    subst hp
    right;left
    exact ⟨k,_,hb,rfl,by simp [SB.aT,mB],by simp [if_neg k1]⟩
   .rw [if_neg k3] at hk;cases hk
 .intro Oq
  by_cases k1:k=lab
  .rw [if_pos k1] at hk
   cases hk
   subst k1
   simp [SB.aT,e2,Value.ownBlock] at hp
  .by_cases k2:k'=lab
   .rw [if_pos k2] at gX
    cases gX
    subst k2
    simp [SB.aT,e2,Value.ownBlock] at Oq
   .rw [if_neg k1] at hk
    rw [if_neg k2] at gX
    by_cases k3:k=lb
    .by_cases k4:k'=lb
     .omega
     .rw [if_neg k4] at gX;cases gX
    .rw [if_neg k3] at hk;cases hk
theorem aD.aEj (h:aD w0 M V T w) (hf:V.fresh lab) (kO:∀ k,lab<=k->T k=none) {lb:Nat} {cs:List SV} {ty el:TypeId} {sz:Nat} {i:Nat}
 (hb:T lb=some (.own cs ty)) (hi:cs[i]?=some (.raw (.slice none 0 0))) (v:SV) :
 ∃ V',V.ext lab V'/\aD w0 M V' (eT T lab { val:=v,new:=[.fQ sz 0 el],wr:=[(lb,.own (cs.set i (.buf lab)) ty)] }) w:=by
 obtain ⟨xs,nL,b2,mB,QZ⟩:=h.ok lb _ hb
 have SW:lb<lab:=Nat.lt_of_not_le fun q=>by rw [kO lb q] at hb;cases hb
 have bU:=bA.cG hf lab (cT _) (by omega) (.slice none 0 0)
 refine ⟨_,bU,?_⟩
 have e2:(V.bC lab (.slice none 0 0)).σ lab=some (.slice none 0 0):=by simp [bA.bC]
 have oP:aJ (V.bC lab (.slice none 0 0)) (cs.set i (.buf lab))=some xs:=by
  have fW:aJ (V.bC lab (.slice none 0 0)) cs=some xs:=cV bU.1 nL
  obtain ⟨x,mW,Ha⟩:=dR fW i _ hi
  simp only [den,aW] at Ha
  exact oI (by rw [<- Ha];simp [den,e2]) cs xs i fW mW
 refine h.step (N:=fun k=>if k=lab then some (.fQ sz 0 el) else if k=lb then some (.own (cs.set i (.buf lab)) ty) else none) bU.1 (fun k C hk=>?_) (fun k C hk=>?_) (fun k C p hk hp=>?_) (fun k C k' C' p yY hk gX ho hp=>?_) (cT _) (fun _ _ _=>rfl) rfl rfl rfl
 .simp only [eT,bK.eW,gE,List.cons_append,mZ] at hk
  by_cases k2:lb=k
  .subst k2
   rw [aI] at hk
   left
   simp only [if_neg (show ¬ lb=lab by omega),if_true]
   simpa using hk
  .rw [aE k2] at hk
   by_cases k3:lab=k
   .subst k3;rw [aI] at hk;left;simpa using hk
   .rw [aE k3] at hk
    right
    simp only [look] at hk
    exact ⟨by rw [if_neg (fun q=>k3 q.symm),if_neg (fun q=>k2 q.symm)],hk⟩
 .by_cases k1:k=lab
  .rw [if_pos k1] at hk
   cases hk
   subst k1
   exact ⟨[],rfl,_,[],e2,⟨by simp,.inl ⟨rfl,rfl⟩⟩,fun q hq=>by cases hq⟩
  .rw [if_neg k1] at hk
   by_cases k3:k=lb
   .rw [if_pos k3] at hk
    cases hk
    subst k3
    exact ⟨xs,oP,b2,bU.1.1 _ _ mB,QZ⟩
   .rw [if_neg k3] at hk;cases hk
 .by_cases k1:k=lab
  .rw [if_pos k1] at hk
   cases hk
   subst k1
   simp [SB.aT,e2,Value.ownBlock] at hp
  .rw [if_neg k1] at hk
   by_cases k3:k=lb
   .rw [if_pos k3] at hk
    cases hk
    subst k3
    simp only [SB.aT,bU.1.1 _ _ mB,gL,aW] at hp
    subst hp
    right;left
    exact ⟨k,_,hb,rfl,by simp [SB.aT,mB],by simp [if_neg k1]⟩
   .rw [if_neg k3] at hk;cases hk
 .intro Oq
  by_cases k1:k=lab
  .rw [if_pos k1] at hk
   cases hk
   subst k1
   simp [SB.aT,e2,Value.ownBlock] at hp
  .by_cases k2:k'=lab
   .rw [if_pos k2] at gX
    cases gX
    subst k2
    simp [SB.aT,e2,Value.ownBlock] at Oq
   .rw [if_neg k1] at hk
    rw [if_neg k2] at gX
    by_cases k3:k=lb
    .by_cases k4:k'=lb
     .omega
     .rw [if_neg k4] at gX;cases gX
    .rw [if_neg k3] at hk;cases hk
theorem aD.aQk (h:aD w0 M V T w) (hf:V.fresh lab) (kO:∀ k,lab<=k->T k=none) {lb:Nat} {cs:List SV} {ty el:TypeId} {i:Nat}
 (hb:T lb=some (.own cs ty)) (hi:cs[i]?=some (.raw (.slice none 0 0))) (v:SV) :
 ∃ V',V.ext lab V'/\aD w0 M V' (eT T lab { val:=v,new:=[.eK [] el],wr:=[(lb,.own (cs.set i (.buf lab)) ty)] }) w:=by
 obtain ⟨xs,nL,b2,mB,QZ⟩:=h.ok lb _ hb
 have SW:lb<lab:=Nat.lt_of_not_le fun q=>by rw [kO lb q] at hb;cases hb
 have bU:=bA.cG hf lab (cT _) (by omega) (.slice none 0 0)
 refine ⟨_,bU,?_⟩
 have e2:(V.bC lab (.slice none 0 0)).σ lab=some (.slice none 0 0):=by simp [bA.bC]
 have oP:aJ (V.bC lab (.slice none 0 0)) (cs.set i (.buf lab))=some xs:=by
  have fW:aJ (V.bC lab (.slice none 0 0)) cs=some xs:=cV bU.1 nL
  obtain ⟨x,mW,Ha⟩:=dR fW i _ hi
  simp only [den,aW] at Ha
  exact oI (by rw [<- Ha];simp [den,e2]) cs xs i fW mW
 refine h.step (N:=fun k=>if k=lab then some (.eK [] el) else if k=lb then some (.own (cs.set i (.buf lab)) ty) else none) bU.1 (fun k C hk=>?_) (fun k C hk=>?_) (fun k C p hk hp=>?_) (fun k C k' C' p yY hk gX ho hp=>?_) (cT _) (fun _ _ _=>rfl) rfl rfl rfl
 .simp only [eT,bK.eW,gE,List.cons_append,mZ] at hk
  by_cases k2:lb=k
  .subst k2
   rw [aI] at hk
   left
   simp only [if_neg (show ¬ lb=lab by omega),if_true]
   simpa using hk
  .rw [aE k2] at hk
   by_cases k3:lab=k
   .subst k3;rw [aI] at hk;left;simpa using hk
   .rw [aE k3] at hk
    right
    simp only [look] at hk
    exact ⟨by rw [if_neg (fun q=>k3 q.symm),if_neg (fun q=>k2 q.symm)],hk⟩
 .by_cases k1:k=lab
  .rw [if_pos k1] at hk
   cases hk
   subst k1
   exact ⟨[],rfl,_,e2,⟨by simp,.inl ⟨rfl,rfl⟩⟩⟩
  .rw [if_neg k1] at hk
   by_cases k3:k=lb
   .rw [if_pos k3] at hk
    cases hk
    subst k3
    exact ⟨xs,oP,b2,bU.1.1 _ _ mB,QZ⟩
   .rw [if_neg k3] at hk;cases hk
 .by_cases k1:k=lab
  .rw [if_pos k1] at hk
   cases hk
   subst k1
   simp [SB.aT,e2,Value.ownBlock] at hp
  .rw [if_neg k1] at hk
   by_cases k3:k=lb
   .rw [if_pos k3] at hk
    cases hk
    subst k3
    simp only [SB.aT,bU.1.1 _ _ mB,gL,aW] at hp
    subst hp
    right;left
    exact ⟨k,_,hb,rfl,by simp [SB.aT,mB],by simp [if_neg k1]⟩
   .rw [if_neg k3] at hk;cases hk
 .intro Oq
  by_cases k1:k=lab
  .rw [if_pos k1] at hk
   cases hk
   subst k1
   simp [SB.aT,e2,Value.ownBlock] at hp
  .by_cases k2:k'=lab
   .rw [if_pos k2] at gX
    cases gX
    subst k2
    simp [SB.aT,e2,Value.ownBlock] at Oq
   .rw [if_neg k1] at hk
    rw [if_neg k2] at gX
    by_cases k3:k=lb
    .by_cases k4:k'=lb
     .omega
     .rw [if_neg k4] at gX;cases gX
    .rw [if_neg k3] at hk;cases hk
theorem aD.aVk (hT:aD w0 M V T w) (hf:V.fresh lab) {sz:Nat} {el:TypeId} {x:Value} (hx:den V (.raw (.slice none 0 0))=some x) :
 ∃ V',V.ext lab V'/\den V' (.buf lab)=some x/\aD w0 M V' (eT T lab { val:=.buf lab,new:=[.fQ sz 0 el] }) w:=by
 simp only [den,aW] at hx
 subst hx
 have bU:=bA.cG hf lab (cT _) (by omega) (.slice none 0 0)
 have e2:(V.bC lab (.slice none 0 0)).σ lab=some (.slice none 0 0):=by simp [bA.bC]
 refine ⟨V.bC lab (.slice none 0 0),bU,by simp [den,e2],?_⟩
 refine hT.step (N:=fun m=>if m=lab then some (.fQ sz 0 el) else none) bU.1 (fun m C hm=>?_) (fun m C hm=>?_) (fun m C q hm hq=>?_) (fun m C m' C' q dI hm kM tP hq=>?_) (cT _) (fun _ _ _=>rfl) rfl rfl rfl
 .unfold eT bK.eW at hm
  simp only [gE,mZ,look] at hm
  by_cases e:m=lab
  .subst e
   left
   simpa using hm
  .right
   refine ⟨if_neg e,?_⟩
   have:Nat.beq lab m=false:=by
    cases lA:Nat.beq lab m with
    | false=>rfl
    | true=>exact absurd (cP lA).symm e
   simpa [this] using hm
 .split at hm
  .rename_i e
   subst e
   cases hm
   exact ⟨[],rfl,_,[],e2,⟨by simp,.inl ⟨rfl,rfl⟩⟩,fun q hq=>by cases hq⟩
  .cases hm
 .split at hm
  .rename_i e
   subst e
   cases hm
   simp [SB.aT,e2,Value.ownBlock] at hq
  .cases hm
 .split at hm
  .rename_i e
   subst e
   cases hm
   simp [SB.aT,e2,Value.ownBlock] at hq
  .cases hm
theorem aD.aQj (hT:aD w0 M V T w) (hf:V.fresh lab) {el:TypeId} {x:Value} (hx:den V (.raw (.slice none 0 0))=some x) :
 ∃ V',V.ext lab V'/\den V' (.buf lab)=some x/\aD w0 M V' (eT T lab { val:=.buf lab,new:=[.eK [] el] }) w:=by
 simp only [den,aW] at hx
 subst hx
 have bU:=bA.cG hf lab (cT _) (by omega) (.slice none 0 0)
 refine ⟨V.bC lab (.slice none 0 0),bU,by simp [den,bA.bC],?_⟩
 refine hT.step (N:=fun m=>if m=lab then some (.eK [] el) else none) bU.1 (fun m C hm=>?_) (fun m C hm=>?_) (fun m C q hm hq=>?_) (fun m C m' C' q dI hm kM tP _=>?_) (cT _) (fun _ _ _=>rfl) rfl rfl rfl
 .unfold eT bK.eW at hm
  simp only [gE,mZ] at hm
  by_cases e:m=lab
  .subst e
   left
   rw [aI] at hm
   rw [if_pos rfl];exact hm
  .right
   rw [aE (fun q=>e q.symm)] at hm
   exact ⟨if_neg e,hm⟩
 .split at hm
  .rename_i e
   subst e
   cases hm
   exact ⟨[],rfl,.slice none 0 0,by simp [bA.bC],World.ownsRow_nil w 0 el 2⟩
  .cases hm
 .split at hm
  .rename_i e
   subst e
   cases hm
   simp [SB.aT,bA.bC,Value.ownBlock] at hq
  .cases hm
 .split at hm
  .rename_i e
   split at kM
   .rename_i e'
    exact absurd (e.trans e'.symm) dI
   .cases kM
  .cases hm
theorem aD.aQq (hT:aD w0 M V T w) (hf:V.fresh lab) {l l2 i:Nat} {cs:List SV} {ty el:TypeId} {xs:List (Int × Int)} (hl:T l=some (.own cs ty)) (hc:cs[i]?=some (.buf l2)) (rU:T l2=some (.eK xs el)) (cM:l<lab) (bAw:l2<lab) (v:SV) :
 ∃ V',V.ext lab V'/\aD w0 M V' (eT T lab { val:=v,new:=[.eK xs el],wr:=[(l,.own (cs.set i (.buf lab)) ty),(l2,.gone)] }) w:=by
 obtain ⟨us,hu,b,hβ,hh⟩:=hT.ok l _ hl
 obtain ⟨ps,hps,u,hσ,bT⟩:=hT.ok l2 _ rU
 cases hps
 have hu:aJ V cs=some us:=hu
 have dI:l≠l2:=fun e=>by subst e;rw [hl] at rU;cases rU
 have bU:=bA.cG hf lab (cT _) (by omega) u
 have e1:(V.bC lab u).σ lab=some u:=by simp [bA.bC]
 have oP:aJ (V.bC lab u) (cs.set i (.buf lab))=some us:=by
  have fW:aJ (V.bC lab u) cs=some us:=cV bU.1 hu
  obtain ⟨x,mW,Ha⟩:=dR fW i _ hc
  simp only [den,bU.1.2 _ _ hσ,aW] at Ha
  exact oI (by rw [<- Ha];simp [den,e1]) cs us i fW mW
 refine ⟨_,bU,?_⟩
 refine hT.step (N:=fun m=>if m=lab then some (.eK xs el) else if m=l then some (.own (cs.set i (.buf lab)) ty) else if m=l2 then some .gone else none) bU.1 (fun m C hm=>?_) (fun m C hm=>?_) (fun m C q hm hq=>?_) (fun m C m' C' q yY hm kM tP hq=>?_) (cT _) (fun _ _ _=>rfl) rfl rfl rfl
 .unfold eT bK.eW at hm
  simp only [gE,List.cons_append,mZ] at hm
  by_cases k1:m=l
  .subst k1
   left
   rw [aI] at hm
   rw [if_neg (by omega),if_pos rfl];exact hm
  .rw [aE (fun q=>k1 q.symm)] at hm
   by_cases k2:m=l2
   .subst k2
    left
    rw [aI] at hm
    rw [if_neg (by omega),if_neg k1,if_pos rfl];exact hm
   .rw [aE (fun q=>k2 q.symm)] at hm
    by_cases k3:m=lab
    .subst k3
     left
     rw [aI] at hm
     rw [if_pos rfl];exact hm
    .right
     rw [aE (fun q=>k3 q.symm)] at hm
     exact ⟨by rw [if_neg k3,if_neg k1,if_neg k2],hm⟩
 .split at hm
  .rename_i e
   subst e
   cases hm
   exact ⟨_,rfl,u,e1,bT⟩
  .split at hm
   .rename_i e
    subst e
    cases hm
    exact ⟨us,oP,b,bU.1.1 _ _ hβ,hh⟩
   .split at hm
    .cases hm;exact ⟨[],rfl,trivial⟩
    .cases hm
 .right;left
  split at hm
  .rename_i e
   subst e
   cases hm
   simp only [SB.aT,e1,lI] at hq
   exact ⟨l2,_,rU,rfl,by simp [SB.aT,hσ,hq],by rw [if_neg (by omega),if_neg (fun q=>dI q.symm),if_pos rfl];simp⟩
  .split at hm
   .rename_i e0 e
    subst e
    cases hm
    simp only [SB.aT,bU.1.1 _ _ hβ,gL,aW] at hq
    exact ⟨m,_,hl,rfl,by simp [SB.aT,hβ,hq],by rw [if_neg e0,if_pos rfl];simp⟩
   .split at hm
    .cases hm;cases hq
    .cases hm
 .intro hq'
  have k1:∀ q,(SB.eK xs el).aT (V.bC lab u) lab=some q->(SB.eK xs el).aT V l2=some q:=fun q h=>by
   simp only [SB.aT,e1,lI] at h;simp [SB.aT,hσ,h]
  have k2:∀ q,(SB.own (cs.set i (.buf lab)) ty).aT (V.bC lab u) l=some q->(SB.own cs ty).aT V l=some q:=fun q h=>by
   simp only [SB.aT,bU.1.1 _ _ hβ,gL,aW] at h;simp [SB.aT,hβ,h]
  split at hm
  .rename_i e
   subst e
   cases hm
   split at kM
   .rename_i e';exact yY e'.symm
   .split at kM
    .rename_i e';subst e';cases kM
     exact hT.iY l2 _ m' _ q (fun e=>dI e.symm) rU hl rfl (k1 q hq) (k2 q hq')
    .split at kM
     .cases kM;cases hq'
     .cases kM
  .split at hm
   .rename_i e0 e
    subst e
    cases hm
    split at kM
    .rename_i e';subst e';cases kM
     exact hT.iY m _ l2 _ q dI hl rU rfl (k2 q hq) (k1 q hq')
    .split at kM
     .rename_i e';exact yY e'.symm
     .split at kM
      .cases kM;cases hq'
      .cases kM
   .split at hm
    .cases hm;cases tP
    .cases hm
end
inductive Cl where
 | cell (t i m:Nat)
 | tmp (t m:Nat)
 | buf (t:Nat) (k:IntKind)
 | nil (t i:Nat) (k:IntKind) (el:TypeId)
 | ali (t:Nat)
 | aEg (t i sz:Nat) (el:TypeId)
 | aEh (t sz:Nat) (el:TypeId)
 | aEi (t:Nat) (el:TypeId)
 | mvb (l i:Nat)
 | FG (t i:Nat) (el:TypeId)
noncomputable def eF (F0 N:Nat) (B:aX) (c:Cl) (s:St):Option St:=match c with
 | .cell t i m=>match s.g.get t with
   | some (.ptr lb true 0)=>match s.T B lb with
     | some (.own cs ty)=>match cs[i]? with
       | some (.aH l true 0 n cap)=>match s.T B l with
         | some (.own cells el)=>match Nat.beq cells.length cap&&(Nat.ble m cap&&(!Nat.beq l lb&&Nat.ble cap 1000000)) with
           | true=>s.step F0 N none { val:=.raw undef,new:=[.row 1 (cells.take m) el],wr:=[(l,.gone),(lb,.own (cs.set i (.dJ s.nx 0 n 0)) ty)] } s.nx (s.nx+8)
           | false=>none
         | _=>none
       | some (.raw (.slice none 0 0))=>some s
       | _=>none
     | _=>none
   | _=>none
 | .tmp t m=>match s.g.get t with
   | some (.aH l true 0 n cap)=>match s.T B l with
     | some (.own cells el)=>match Nat.beq cells.length cap&&(Nat.ble m cap&&Nat.ble cap 1000000) with
       | true=>s.step F0 N (some t) { val:=.dJ s.nx 0 n 0,new:=[.row 1 (cells.take m) el],wr:=[(l,.gone)] } s.nx (s.nx+8)
       | false=>none
     | _=>none
   | _=>none
 | .buf t k=>match s.g.get t with
   | some (.aH l true 0 n cap)=>match s.T B l with
     | some (.own cells el)=>match Nat.beq cells.length cap&&(Nat.ble n cap&&(Nat.ble cap 1000000&&(cU k cells).isSome)),cU k (cells.take n) with
       | true,some ns=>s.step F0 N (some t) { val:=.buf s.nx,new:=[.dF k ns el],wr:=[(l,.gone)] } s.nx (s.nx+8)
       | _,_=>none
     | _=>none
   | _=>none
 | .nil t i k el=>match s.g.get t with
   | some (.ptr lb true 0)=>match s.T B lb with
     | some (.own cs ty)=>match cs[i]? with
       | some (.raw (.slice none 0 0))=>s.step F0 N none { val:=.raw undef,new:=[.dF k [] el],wr:=[(lb,.own (cs.set i (.buf s.nx)) ty)] } s.nx (s.nx+8)
       | some (.buf _)=>some s
       | _=>none
     | _=>none
   | _=>none
 | .ali t=>match s.g.get t with
   | some (.iH l n)=>match s.T B l with
     | some (.gC k xs)=>s.step F0 N (some t) { val:=.iH s.nx n,new:=[.gC k xs] } s.nx (s.nx+8)
     | _=>none
   | _=>none
 | .aEg t i sz el=>match s.g.get t with
   | some (.ptr lb true 0)=>match s.T B lb with
     | some (.own cs ty)=>match cs[i]? with
       | some (.raw (.slice none 0 0))=>s.step F0 N none { val:=.raw undef,new:=[.fQ sz 0 el],wr:=[(lb,.own (cs.set i (.buf s.nx)) ty)] } s.nx (s.nx+8)
       | some (.buf _)=>some s
       | _=>none
     | _=>none
   | _=>none
 | .aEh t sz el=>match s.g.get t with
   | some (.raw (.slice none 0 0))=>s.step F0 N (some t) { val:=.buf s.nx,new:=[.fQ sz 0 el] } s.nx (s.nx+8)
   | some (.buf _)=>some s
   | _=>none
 | .aEi t el=>match s.g.get t with
   | some (.raw (.slice none 0 0))=>s.step F0 N (some t) { val:=.buf s.nx,new:=[.eK [] el] } s.nx (s.nx+8)
   | some (.buf _)=>some s
   | _=>none
 | .mvb l i=>match s.T B l with
   | some (.own cs ty)=>match cs[i]? with
     | some (.buf l2)=>match s.T B l2,Nat.blt l s.nx&&Nat.blt l2 s.nx with
       | some (.eK xs el),true=>s.step F0 N none { val:=.raw undef,new:=[.eK xs el],wr:=[(l,.own (cs.set i (.buf s.nx)) ty),(l2,.gone)] } s.nx (s.nx+8)
       | _,_=>none
     | _=>none
   | _=>none
 | .FG t i el=>match s.g.get t with
   | some (.ptr lb true 0)=>match s.T B lb with
     | some (.own cs ty)=>match cs[i]? with
       | some (.raw (.slice none 0 0))=>s.step F0 N none { val:=.raw undef,new:=[.eK [] el],wr:=[(lb,.own (cs.set i (.buf s.nx)) ty)] } s.nx (s.nx+8)
       | some (.buf _)=>some s
       | _=>none
     | _=>none
   | _=>none
noncomputable def jU (F0 N:Nat) (B:aX):List Cl->St->Option St
 | [],s=>some s
 | c::r,s=>match eF F0 N B c s with
   | some s=>jU F0 N B r s
   | none=>none
section
variable {P:Program} {Γ:Env} {w0:World} {M:Nat->Prop} {B:aX} {N F0:Nat} {V0:bA}
theorem Inv.eF {c:Cl} {s s':St} (h:eF F0 N B c s=some s') {V:bA} {a:Act} {w:World} (hi:Inv P Γ w0 M B N F0 V0 s V a w):(∃ V',Inv P Γ w0 M B N F0 V0 s' V' a w)/\s'.ob=s.ob:=by
 cases c with
 | cell t i m=>
   simp only [Sx.eF] at h
   split at h
   case h_2=>cases h
   rename_i lb _
   split at h
   case h_2=>cases h
   rename_i cs ty hb
   split at h
   case h_3=>cases h
   .rename_i l n cap hc
    split at h
    case h_2=>cases h
    rename_i cells el hl
    split at h
    case h_2=>cases h
    rename_i kE
    simp only [iN,Bool.not_eq_true'] at kE
    obtain ⟨k1,k2,k3,k4⟩:=kE
    obtain ⟨V',hV,hT⟩:=aD.close hi.eW hi.top.fresh hi.hi hl (cP k1) (jX k2) (jX k4) hb hc (fun e=>by subst e;rw [Nat.beq_refl] at k3;cases k3) (.raw undef)
    refine ⟨⟨V',?_⟩,(St.dP B h).2.2.1⟩
    exact hi.step (x:=undef) h (cT _) (cT _) hV (fun h=>by cases h) hT
   .cases h;exact ⟨⟨V,hi⟩,rfl⟩
 | tmp t m=>
   simp only [Sx.eF] at h
   split at h
   case h_2=>cases h
   rename_i l n cap ht
   split at h
   case h_2=>cases h
   rename_i cells el hl
   split at h
   case h_2=>cases h
   rename_i kE
   simp only [iN] at kE
   obtain ⟨k1,k2,k4⟩:=kE
   obtain ⟨V',hV,hx,hT⟩:=aD.aLr hi.eW hi.top.fresh hi.hi hl (cP k1) (jX k2) (jX k4) (hi.tmp t _ ht)
   have:=hi.step (x:=a.eval (.tmp t)) h (cT _) (cT _) hV (fun _=>hx) hT
   rw [Act.kJ] at this
   exact ⟨⟨V',this⟩,(St.dP B h).2.2.1⟩
 | buf t k=>
   simp only [Sx.eF] at h
   split at h
   case h_2=>cases h
   rename_i l n cap ht
   split at h
   case h_2=>cases h
   rename_i cells el hl
   split at h
   case h_2=>cases h
   rename_i ns kE hk
   simp only [iN] at kE
   obtain ⟨k1,k2,k4,k5⟩:=kE
   obtain ⟨V',hV,hx,hT⟩:=aD.aLs hi.eW hi.top.fresh hi.hi hl (cP k1) (jX k2) (jX k4) hk k5 (hi.tmp t _ ht)
   have:=hi.step (x:=a.eval (.tmp t)) h (cT _) (cT _) hV (fun _=>hx) hT
   rw [Act.kJ] at this
   exact ⟨⟨V',this⟩,(St.dP B h).2.2.1⟩
 | nil t i k el=>
   simp only [Sx.eF] at h
   split at h
   case h_2=>cases h
   rename_i lb _
   split at h
   case h_2=>cases h
   rename_i cs ty hb
   split at h
   case h_3=>cases h
   .rename_i hc
    obtain ⟨V',hV,hT⟩:=aD.aVl (k0:=k) (el:=el) hi.eW hi.top.fresh hi.hi hb hc (.raw undef)
    exact ⟨⟨V',hi.step (x:=undef) h (cT _) (cT _) hV (fun h=>by cases h) hT⟩,(St.dP B h).2.2.1⟩
   .cases h;exact ⟨⟨V,hi⟩,rfl⟩
 | ali t=>
   simp only [Sx.eF] at h
   split at h
   case h_2=>cases h
   rename_i l n ht
   split at h
   case h_2=>cases h
   rename_i k xs hl
   obtain ⟨V',hV,hx,hT⟩:=aD.aMc hi.eW hi.top.fresh hl (hi.tmp t _ ht)
   have:=hi.step (x:=a.eval (.tmp t)) h (cT _) (cT _) hV (fun _=>hx) hT
   rw [Act.kJ] at this
   exact ⟨⟨V',this⟩,(St.dP B h).2.2.1⟩
 | aEg t i sz el=>
   simp only [Sx.eF] at h
   split at h
   case h_2=>cases h
   rename_i lb _
   split at h
   case h_2=>cases h
   rename_i cs ty hb
   split at h
   case h_3=>cases h
   .rename_i hc
    obtain ⟨V',hV,hT⟩:=aD.aEj (sz:=sz) (el:=el) hi.eW hi.top.fresh hi.hi hb hc (.raw undef)
    exact ⟨⟨V',hi.step (x:=undef) h (cT _) (cT _) hV (fun h=>by cases h) hT⟩,(St.dP B h).2.2.1⟩
   .cases h;exact ⟨⟨V,hi⟩,rfl⟩
 | aEh t sz el=>
   simp only [Sx.eF] at h
   split at h
   case h_3=>cases h
   .rename_i ht
    obtain ⟨V',hV,hx,hT⟩:=aD.aVk (sz:=sz) (el:=el) hi.eW hi.top.fresh (hi.tmp t _ ht)
    have:=hi.step (x:=a.eval (.tmp t)) h (cT _) (cT _) hV (fun _=>hx) hT
    rw [Act.kJ] at this
    exact ⟨⟨V',this⟩,(St.dP B h).2.2.1⟩
   .cases h;exact ⟨⟨V,hi⟩,rfl⟩
 | aEi t el=>
   simp only [Sx.eF] at h
   split at h
   case h_3=>cases h
   .rename_i ht
    obtain ⟨V',hV,hx,hT⟩:=aD.aQj (el:=el) hi.eW hi.top.fresh (hi.tmp t _ ht)
    have:=hi.step (x:=a.eval (.tmp t)) h (cT _) (cT _) hV (fun _=>hx) hT
    rw [Act.kJ] at this
    exact ⟨⟨V',this⟩,(St.dP B h).2.2.1⟩
   .cases h;exact ⟨⟨V,hi⟩,rfl⟩
 | mvb l i=>
   simp only [Sx.eF] at h
   split at h
   case h_2=>cases h
   rename_i cs ty hl
   split at h
   case h_2=>cases h
   rename_i l2 hc
   split at h
   case h_2=>cases h
   rename_i xs el rU cM
   simp only [iN,Nat.blt_eq] at cM
   obtain ⟨V',hV,hT⟩:=aD.aQq hi.eW hi.top.fresh hl hc rU cM.1 cM.2 (.raw undef)
   exact ⟨⟨V',hi.step (x:=undef) h (cT _) (cT _) hV (fun h=>by cases h) hT⟩,(St.dP B h).2.2.1⟩
 | FG t i el=>
   simp only [Sx.eF] at h
   split at h
   case h_2=>cases h
   rename_i lb _
   split at h
   case h_2=>cases h
   rename_i cs ty hb
   split at h
   case h_3=>cases h
   .rename_i hc
    obtain ⟨V',hV,hT⟩:=aD.aQk (el:=el) hi.eW hi.top.fresh hi.hi hb hc (.raw undef)
    exact ⟨⟨V',hi.step (x:=undef) h (cT _) (cT _) hV (fun h=>by cases h) hT⟩,(St.dP B h).2.2.1⟩
   .cases h;exact ⟨⟨V,hi⟩,rfl⟩
theorem Inv.jU:∀ {cl:List Cl} {s s':St},jU F0 N B cl s=some s'->∀ {V:bA} {a:Act} {w:World},Inv P Γ w0 M B N F0 V0 s V a w->(∃ V',Inv P Γ w0 M B N F0 V0 s' V' a w)
 | [],s,s',h,V,a,w,hi=>by simp only [Sx.jU,aW] at h;subst h;exact ⟨V,hi⟩
 | c::r,s,s',h,V,a,w,hi=>by
   simp only [Sx.jU] at h
   split at h
   .rename_i s1 h1
    obtain ⟨⟨V1,Xe⟩,e⟩:=hi.eF h1
    exact Inv.jU h Xe
   .cases h
theorem AV {c:Cl} {s s':St} (h:eF F0 N B c s=some s'):s'.ob=s.ob:=by
 cases c with
 | cell t i m=>
   simp only [Sx.eF] at h
   split at h
   case h_2=>cases h
   split at h
   case h_2=>cases h
   split at h
   case h_3=>cases h
   .split at h
    case h_2=>cases h
    split at h
    case h_2=>cases h
    exact (St.dP B h).2.2.1
   .cases h;rfl
 | tmp t m=>
   simp only [Sx.eF] at h
   split at h
   case h_2=>cases h
   split at h
   case h_2=>cases h
   split at h
   case h_2=>cases h
   exact (St.dP B h).2.2.1
 | buf t k=>
   simp only [Sx.eF] at h
   split at h
   case h_2=>cases h
   split at h
   case h_2=>cases h
   split at h
   case h_2=>cases h
   exact (St.dP B h).2.2.1
 | nil t i k el=>
   simp only [Sx.eF] at h
   split at h
   case h_2=>cases h
   split at h
   case h_2=>cases h
   split at h
   case h_3=>cases h
   .exact (St.dP B h).2.2.1
   .cases h;rfl
 | ali t=>
   simp only [Sx.eF] at h
   split at h
   case h_2=>cases h
   split at h
   case h_2=>cases h
   exact (St.dP B h).2.2.1
 | aEg t i sz el=>
   simp only [Sx.eF] at h
   split at h
   case h_2=>cases h
   split at h
   case h_2=>cases h
   split at h
   case h_3=>cases h
   .exact (St.dP B h).2.2.1
   .cases h;rfl
 | aEh t sz el=>
   simp only [Sx.eF] at h
   split at h
   case h_3=>cases h
   .exact (St.dP B h).2.2.1
   .cases h;rfl
 | aEi t el=>
   simp only [Sx.eF] at h
   split at h
   case h_3=>cases h
   .exact (St.dP B h).2.2.1
   .cases h;rfl
 | mvb l i=>
   simp only [Sx.eF] at h
   split at h
   case h_2=>cases h
   split at h
   case h_2=>cases h
   split at h
   case h_2=>cases h
   exact (St.dP B h).2.2.1
 | FG t i el=>
   simp only [Sx.eF] at h
   split at h
   case h_2=>cases h
   split at h
   case h_2=>cases h
   split at h
   case h_3=>cases h
   .exact (St.dP B h).2.2.1
   .cases h;rfl
theorem rR:∀ {cl:List Cl} {s s':St},jU F0 N B cl s=some s'->s'.ob=s.ob
 | [],s,s',h=>by simp only [Sx.jU,aW] at h;subst h;rfl
 | c::r,s,s',h=>by
   simp only [Sx.jU] at h
   split at h
   .rename_i s1 h1
    rw [rR h,AV h1]
   .cases h
noncomputable def qF (Γ:Env) (T:aX) (lab F:Nat) (fn:Func) (cl:List Cl) (r:Option nM):Option bK:=match r with
 | some r=>match r.cf,r.fr with
   | .at x,[]=>match jU F fn.ntmps (aZ F T) cl r.st with
     | some s=>Kp Γ T lab F fn x s
     | none=>none
   | _,_=>none
 | none=>none
theorem G.oQ (aU:cD P Γ) (aV:cF P Γ) (gZ:P.follows .mixedOrders=true) {T:aX} {lab:Nat} {fn:Func} {e e':bK} {cl:List Cl} {stops:List Nat} {lf n:Nat} {cf:Cf} {K:List Fr} {s:St} (hs:List Bool) {Q:Exit->Act->World->Prop}
 (H:∀ x s e',Kp Γ T lab F0 fn x s=some e'->(∀ q∈e'.bO,q)->e'.val=e.val->e'.new=e.new->e'.wr=e.wr->G P Γ w0 M (aZ F0 T) fn.ntmps F0 V0 (.at x) [] s Q)
 (h:qF Γ T lab F0 fn cl (fX Γ (aZ F0 T) F0 fn.ntmps stops lf n cf K (s.hint hs))=some e') (hp:∀ q∈e'.bO,q) (h1:e'.val=e.val) (h2:e'.new=e.new) (h3:e'.wr=e.wr) :
 G P Γ w0 M (aZ F0 T) fn.ntmps F0 V0 cf K s Q:=by
 unfold qF at h
 split at h
 case h_2=>cases h
 rename_i r hr
 split at h
 case h_2=>cases h
 rename_i x hx hf
 split at h
 case h_2=>cases h
 rename_i s1 Ov
 have dY:G P Γ w0 M (aZ F0 T) fn.ntmps F0 V0 cf K (s.hint hs) Q:=by
  refine G.run aU aV gZ hr (fun q hq=>hp q (Wn h q (by rw [rR Ov];exact hq))) ?_
  rw [hx,hf]
  intro V a w hi
  obtain ⟨V',fV⟩:=hi.jU Ov
  exact H x s1 e' h hp h1 h2 h3 V' a w fV
 intro V a w hi
 exact dY V a w (hi.hints s.ob hs)
noncomputable def eJ (F0 N:Nat) (B:aX) (cl:List Cl) (gs:List (Nat × SV)) (tb:List (Nat × SB)) (nx:Nat) (ws:List Nat) (df:List SV) (r:Option nM):Option (Cf × List Fr × List Prop):=match r with
 | some r=>match jU F0 N B cl r.st with
   | some s=>xV F0 B [] gs tb nx ws df (some ⟨r.cf,r.fr,s⟩)
   | none=>none
 | none=>none
theorem G.eJ (aU:cD P Γ) (aV:cF P Γ) (gZ:P.follows .mixedOrders=true) (hb:nP Γ B F0 V0) {stops:List Nat} {lf n:Nat} {cf Of:Cf} {K K':List Fr} {s:St} (hs:List Bool) {cl:List Cl} {gs:List (Nat × SV)} {tb:List (Nat × SB)} {nx:Nat} {ws:List Nat} {df:List SV} {ps:List Prop} {Q:Exit->Act->World->Prop}
 (h:eJ F0 N B cl gs tb nx ws df (fX Γ B F0 N stops lf n cf K (s.hint hs))=some (Of,K',ps)) (hp:∀ q∈ps,q) (hG:G P Γ w0 M B N F0 V0 Of K' (bQ gs tb nx ws df) Q):G P Γ w0 M B N F0 V0 cf K s Q:=by
 unfold Sx.eJ at h
 split at h
 case h_2=>cases h
 rename_i r hr
 split at h
 case h_2=>cases h
 rename_i s1 h1
 have ob:=rR h1
 have h0:Sx.xV F0 B [] gs tb nx ws df (fX Γ B F0 N stops lf 0 r.cf r.fr (s1.hint s1.hs))=some (Of,K',ps):=h
 have dY:G P Γ w0 M B N F0 V0 cf K (s.hint hs) Q:=by
  refine G.run aU aV gZ hr (fun q hq=>?_) ?_
  .refine hp q ?_
   have hq:q∈s1.ob:=by rw [ob];exact hq
   unfold Sx.xV at h
   simp only at h
   unfold Sx.toN at h
   simp only [nE] at h
   unfold BP at h
   simp only at h
   split at h
   case h_2=>cases h
   split at h
   case h_2=>cases h
   cases h
   exact List.mem_append_left _ hq
  .intro V a w hi
   obtain ⟨V',fV⟩:=hi.jU h1
   exact G.xV aU aV gZ hb s1.hs h0 hp hG V' a w fV
 intro V a w hi
 exact dY V a w (hi.hints s.ob hs)
theorem G.qK (aU:cD P Γ) (aV:cF P Γ) (gZ:P.follows .mixedOrders=true) (hb:nP Γ B F0 V0) {stops:List Nat} {lf n:Nat} {cf:Cf} {K1 K:List Fr} {s:St} (hs:List Bool) {cl:List Cl} {gs:List (Nat × SV)} {tb:List (Nat × SB)} {nx:Nat} {ws:List Nat} {df:List SV} {ps:List Prop} {Q:Exit->Act->World->Prop} {S:Nat->St->Prop} {r:Nat}
 (h:Sx.eJ F0 N B cl gs tb nx ws df (fX Γ B F0 N stops lf n cf K1 (s.hint hs))=some (.at .normal,[],ps)) (hp:∀ q∈ps,q) (r':Nat) (cM:r'<r) (hS:S r' (bQ gs tb nx ws df)) :
 G P Γ w0 M B N F0 V0 cf K1 s (Exit.then (fun a w=>∃ r',r'<r/\∃ s',S r' s'/\∃ V,Inv P Γ w0 M B N F0 V0 s' V a w) (KQ P K Q)):=
 G.eJ aU aV gZ hb hs h hp (G.again fun V _ _ hi=>⟨r',cM,_,hS,V,hi⟩)
end
theorem aF.bD {P:Program} {Γ:Env} {f:FuncId} {vs:List SV} {T:aX} {lab F:Nat} {e:bK} (h:aF P Γ f vs T lab F e) (l:Nat) (B:SB) (hT:T l=some B) (hl:l<lab) :
 aF P Γ f vs T lab F { e with wr:=e.wr++[(l,B)] }:=by
 intro w0 M V T2 w xs aR Hm hg hf hF hx o a K Q hK
 refine h w0 M V T2 w xs aR Hm hg hf hF hx o a K Q fun V' x w' h1 h2 h3=>hK V' x w' h1 h2 ?_
 have:eT T2 lab { e with wr:=e.wr++[(l,B)] }=eT T2 lab e:=by
  funext k
  simp only [eT,bK.eW,cE,List.append_assoc]
  cases hk:look k e.wr with
  | some b=>rfl
  | none=>
    simp only
    by_cases e1:l=k
    .subst e1
     rw [aI]
     simp only
     rw [fD,if_neg (by omega)]
     exact (aR l B hT).symm
    .rw [aE e1]
     simp only [look]
 rw [this]
 exact h3
section
variable {w0 w:World} {M:Nat->Prop} {V:bA} {T:aX} {lab:Nat}
theorem xR (V:bA) (k:IntKind):∀ xs:List Int,aJ V (xs.map (SV.int false k))=some (xs.map (Value.int k))
 | []=>rfl
 | x::xs=>by simp [aJ,den,xR V k xs]
theorem aD.opened (h:aD w0 M V T w) (hf:V.fresh lab) (kO:∀ k,lab<=k->T k=none) {l:Nat} {k:IntKind} {xs:List Int} {el:TypeId} (hl:T l=some (.dF k xs el)) (Ay:0<xs.length) {lb:Nat} {cs:List SV} {ty:TypeId} {i:Nat}
 (hb:T lb=some (.own cs ty)) (hi:cs[i]?=some (.buf l)) (dI:l≠lb) (v:SV) :
 ∃ V',V.ext lab V'/\aD w0 M V' (eT T lab { val:=v,new:=[.row 1 (xs.map (SV.int false k)) el],wr:=[(l,.gone),(lb,.own (cs.set i (.dJ lab 0 xs.length 0)) ty)] }) w:=by
 obtain ⟨us,Dy,u,hσ,bT⟩:=h.ok l _ hl
 obtain ⟨ys,pY,b2,mB,QZ⟩:=h.ok lb _ hb
 cases Dy
 rcases bT.1.2 with ⟨_,h0⟩ | ⟨b,cap,cur,rfl,_,hh,hle,qE,kD,dG⟩
 .omega
 have cM:l<lab:=Nat.lt_of_not_le fun q=>by rw [kO l q] at hl;cases hl
 have SW:lb<lab:=Nat.lt_of_not_le fun q=>by rw [kO lb q] at hb;cases hb
 have bU:V.ext lab ((V.put lab (b,0)).bC lab (.int .i64 (cap:Nat))):=by
  have h1:=bA.kB hf lab (cT _) (by omega) (b,0)
  refine ⟨⟨fun k p hp=>h1.1.1 k p hp,fun k p hp=>?_⟩,fun k hk=>⟨(h1.2 k hk).1,?_⟩⟩
  .simp only [bA.bC]
   by_cases e:k=lab
   .subst e;rw [(hf k (cT _) (by omega)).2] at hp;cases hp
   .rw [if_neg e];exact hp
  .simp only [bA.bC]
   rw [if_neg (by omega)]
   rfl
 refine ⟨_,bU,?_⟩
 obtain ⟨V',Od⟩:∃ V',V'=(V.put lab (b,0)).bC lab (.int .i64 (cap:Nat)):=⟨_,rfl⟩
 rw [<- Od] at bU |-
 have e1:V'.β lab=some (b,0):=by rw [Od];simp [bA.put,bA.bC]
 have e2:V'.σ lab=some (.int .i64 (cap:Nat)):=by rw [Od];simp [bA.bC]
 have Tk:SB.aT V l (.dF k xs el)=some b:=by simp [SB.aT,hσ,Value.ownBlock]
 have Xg:b≠b2:=by
  intro e
  exact h.iY l _ lb _ b dI hl hb rfl Tk (by simp [SB.aT,mB,e])
 have oP:aJ V' (cs.set i (.dJ lab 0 xs.length 0))=some ys:=by
  have fW:aJ V' cs=some ys:=cV bU.1 pY
  obtain ⟨x,mW,Ha⟩:=dR fW i _ hi
  simp only [den,bU.1.2 _ _ hσ,aW] at Ha
  refine oI ?_ cs ys i fW mW
  rw [<- Ha]
  simp [den,e1,e2,qJ]
 refine h.step (N:=fun q=>if q=lab then some (.row 1 (xs.map (SV.int false k)) el) else if q=l then some .gone else if q=lb then some (.own (cs.set i (.dJ lab 0 xs.length 0)) ty) else none) bU.1 (fun q C hk=>?_) (fun q C hk=>?_) (fun q C p hk hp=>?_) (fun q C q' C' p yY hk gX ho hp=>?_) (cT _) (fun _ _ _=>rfl) rfl rfl rfl
 .simp only [eT,bK.eW,gE,List.cons_append,mZ] at hk
  by_cases k1:l=q
  .subst k1
   rw [aI] at hk
   left
   simp only [if_neg (show ¬ l=lab by omega),if_true]
   simpa using hk
  .rw [aE k1] at hk
   by_cases k2:lb=q
   .subst k2
    rw [aI] at hk
    left
    simp only [if_neg (show ¬ lb=lab by omega),if_neg (fun q=>dI (Eq.symm q)),if_true]
    simpa using hk
   .rw [aE k2] at hk
    by_cases k3:lab=q
    .subst k3;rw [aI] at hk;left;simpa using hk
    .rw [aE k3] at hk
     right
     simp only [look] at hk
     exact ⟨by rw [if_neg (fun q=>k3 q.symm),if_neg (fun q=>k1 q.symm),if_neg (fun q=>k2 q.symm)],hk⟩
 .by_cases k1:q=lab
  .rw [if_pos k1] at hk
   cases hk
   subst k1
   refine ⟨xs.map (Value.int k),xR V' k xs,b,cap,cur,e1,e2,hh,qE,kD,⟨xs.length,by simp,hle⟩,?_⟩
   rw [List.length_map]
   rw [Nat.mul_one] at dG
   exact dG
  .rw [if_neg k1] at hk
   by_cases k2:q=l
   .rw [if_pos k2] at hk;cases hk;exact ⟨[],rfl,trivial⟩
   .rw [if_neg k2] at hk
    by_cases k3:q=lb
    .rw [if_pos k3] at hk
     cases hk
     subst k3
     exact ⟨ys,oP,b2,bU.1.1 _ _ mB,QZ⟩
    .rw [if_neg k3] at hk;cases hk
 .by_cases k1:q=lab
  .rw [if_pos k1] at hk
   cases hk
   subst k1
   simp only [SB.aT,e1,gL,aW] at hp
   subst hp
   right;left
   exact ⟨l,_,hl,rfl,Tk,by simp [if_neg (show ¬ l=q by omega)]⟩
  .rw [if_neg k1] at hk
   by_cases k2:q=l
   .rw [if_pos k2] at hk;cases hk;cases hp
   .rw [if_neg k2] at hk
    by_cases k3:q=lb
    .rw [if_pos k3] at hk
     cases hk
     subst k3
     simp only [SB.aT,bU.1.1 _ _ mB,gL,aW] at hp
     subst hp
     right;left
     exact ⟨q,_,hb,rfl,by simp [SB.aT,mB],by simp [if_neg k1,if_neg k2]⟩
    .rw [if_neg k3] at hk;cases hk
 .have aT:∀ q C p,(if q=lab then some (SB.row 1 (xs.map (SV.int false k)) el) else if q=l then some .gone else if q=lb then some (.own (cs.set i (.dJ lab 0 xs.length 0)) ty) else none)=some C->C.aT V' q=some p->(q=lab/\p=b)\/(q=lb/\p=b2):=by
   intro q C p hk hp
   by_cases k1:q=lab
   .rw [if_pos k1] at hk
    cases hk
    subst k1
    simp only [SB.aT,e1,gL,aW] at hp
    exact .inl ⟨rfl,hp.symm⟩
   .rw [if_neg k1] at hk
    by_cases k2:q=l
    .rw [if_pos k2] at hk;cases hk;cases hp
    .rw [if_neg k2] at hk
     by_cases k3:q=lb
     .rw [if_pos k3] at hk
      cases hk
      subst k3
      simp only [SB.aT,bU.1.1 _ _ mB,gL,aW] at hp
      exact .inr ⟨rfl,hp.symm⟩
     .rw [if_neg k3] at hk;cases hk
  intro Oq
  rcases aT q C p hk hp with ⟨r1,r2⟩ | ⟨r1,r2⟩ <;> rcases aT q' C' p gX Oq with ⟨r3,r4⟩ | ⟨r3,r4⟩
  .omega
  .exact Xg (r2.symm.trans r4)
  .exact Xg (r4.symm.trans r2)
  .omega
end
noncomputable def Lf (F0 N:Nat) (B:aX) (t i:Nat) (s:St):Option St:=match s.g.get t with
 | some (.ptr lb true 0)=>match s.T B lb with
   | some (.own cs ty)=>match cs[i]? with
     | some (.buf l)=>match s.T B l with
       | some (.dF k xs el)=>match Nat.blt 0 xs.length && !Nat.beq l lb with
         | true=>s.step F0 N none { val:=.raw undef,new:=[.row 1 (xs.map (SV.int false k)) el],wr:=[(l,.gone),(lb,.own (cs.set i (.dJ s.nx 0 xs.length 0)) ty)] } s.nx (s.nx+8)
         | false=>none
       | _=>none
     | _=>none
   | _=>none
 | _=>none
noncomputable def opS (F0 N:Nat) (B:aX) (t i:Nat) (s:St):St:=match Lf F0 N B t i s with
 | some s'=>s'
 | none=>s
section
variable {P:Program} {Γ:Env} {w0:World} {M:Nat->Prop} {B:aX} {N F0:Nat} {V0:bA}
theorem Inv.Lf {t i:Nat} {s s':St} (h:Lf F0 N B t i s=some s') {V:bA} {a:Act} {w:World} (hi:Inv P Γ w0 M B N F0 V0 s V a w):∃ V',Inv P Γ w0 M B N F0 V0 s' V' a w:=by
 unfold Sx.Lf at h
 split at h
 case h_2=>cases h
 rename_i lb _
 split at h
 case h_2=>cases h
 rename_i cs ty hb
 split at h
 case h_2=>cases h
 rename_i l hc
 split at h
 case h_2=>cases h
 rename_i k xs el hl
 split at h
 case h_2=>cases h
 rename_i kE
 simp only [iN,Bool.not_eq_true'] at kE
 obtain ⟨k1,k2⟩:=kE
 obtain ⟨V',hV,hT⟩:=aD.opened hi.eW hi.top.fresh hi.hi hl (by simpa [Nat.blt_eq] using k1) hb hc (fun e=>by subst e;rw [Nat.beq_refl] at k2;cases k2) (.raw undef)
 exact ⟨V',hi.step (x:=undef) h (cT _) (cT _) hV (fun h=>by cases h) hT⟩
theorem G.op (t i:Nat) {cf:Cf} {K:List Fr} {s:St} {Q:Exit->Act->World->Prop} (hG:G P Γ w0 M B N F0 V0 cf K (opS F0 N B t i s) Q):G P Γ w0 M B N F0 V0 cf K s Q:=by
 intro V a w hi
 unfold opS at hG
 split at hG
 .rename_i s' h
  obtain ⟨V',fV⟩:=hi.Lf h
  exact hG V' a w fV
 .exact hG V a w hi
end
end Go.Proofs.YtnodfocobmghiaaGreatDoor.Sx
section
namespace Go.Proofs.YtnodfocobmghiaaGreatDoor.Sx
end Go.Proofs.YtnodfocobmghiaaGreatDoor.Sx
end
namespace Go.Proofs.YtnodfocobmghiaaGreatDoor.Sx
def dE (n:Nat) (xs:List Int):List Int:=(List.range n).map fun j=>xs.getD j 0
theorem dX {n:Nat} {xs:List Int} (h:xs.length=n):dE n xs=xs:=by
 unfold dE
 apply List.ext_getElem
 .simp [h]
 .intro i h1 h2
  simp [gY,h2]
namespace B
def word (l:List Int) (i:Nat):Int:=jZ .u32 (jZ .u32 (jZ .u32 (IntKind.u32.wrap (l.getD (4*i) 0)) (dD .u32 (IntKind.u32.wrap (l.getD (4*i+1) 0)) 8)) (dD .u32 (IntKind.u32.wrap (l.getD (4*i+2) 0)) 16)) (dD .u32 (IntKind.u32.wrap (l.getD (4*i+3) 0)) 24)
def rot (x k:Int):Int:=jZ .u32 (dD .u32 x k) (bY .u32 x (32-k))
def qr (v:List Int) (a b c d:Nat):List Int:=
 let v:=v.set a (IntKind.u32.wrap (v.getD a 0+v.getD b 0))
 let v:=v.set d (rot (gI .u32 (v.getD d 0) (v.getD a 0)) 16)
 let v:=v.set c (IntKind.u32.wrap (v.getD c 0+v.getD d 0))
 let v:=v.set b (rot (gI .u32 (v.getD b 0) (v.getD c 0)) 12)
 let v:=v.set a (IntKind.u32.wrap (v.getD a 0+v.getD b 0))
 let v:=v.set d (rot (gI .u32 (v.getD d 0) (v.getD a 0)) 8)
 let v:=v.set c (IntKind.u32.wrap (v.getD c 0+v.getD d 0))
 v.set b (rot (gI .u32 (v.getD b 0) (v.getD c 0)) 7)
def dr (v:List Int):List Int:=
 qr (qr (qr (qr (qr (qr (qr (qr v 0 4 8 12) 1 5 9 13) 2 6 10 14) 3 7 11 15) 0 5 10 15) 1 6 11 12) 2 7 8 13) 3 4 9 14
def rounds (n:Nat) (v:List Int):List Int:=match n with
 | 0=>v
 | n+1=>rounds n (dr v)
def init (key aC:List Int) (ctr:Int):List Int:=[1634760805,857760878,2036477234,1797285236]++(List.range 8).map (word key)++[ctr]++(List.range 3).map (word aC)
def out (v w:List Int):List Int:=(List.range 64).map fun j=>IntKind.u8.wrap (bY .u32 (IntKind.u32.wrap (v.getD (j/4) 0+w.getD (j/4) 0)) (IntKind.i64.wrap (8*(j%4:Nat))))
def block (key aC:List Int) (ctr:Int):List Int:=out (rounds 10 (init key aC ctr)) (init key aC ctr)
end B
def Au (key aC:List Int) (c:Int) (i:Nat):Int:=(B.block key aC (IntKind.u32.wrap (c+(i/64:Nat)))).getD (i%64) 0
def cI (key aC:List Int) (c:Int) (off n:Nat) (xs:List Int):List Int:=
 (List.range xs.length).map fun m=>if off<=m/\m<off+n then gI .u8 (xs.getD m 0) (Au key aC c (m-off)) else xs.getD m 0
theorem fU (key aC:List Int) (c:Int) (off n:Nat) (xs:List Int):(cI key aC c off n xs).length=xs.length:=by simp [cI]
theorem rN (key aC:List Int) (c:Int) (off n:Nat) (xs:List Int) {m:Nat} (h:m<xs.length):(cI key aC c off n xs).getD m 0=if off<=m/\m<off+n then gI .u8 (xs.getD m 0) (Au key aC c (m-off)) else xs.getD m 0:=by
 simp [cI,gY,h]
theorem Dj (key aC:List Int) (c:Int) (off:Nat) (xs:List Int):cI key aC c off 0 xs=xs:=by
 apply List.ext_getElem
 .simp [cI]
 .intro i h1 h2
  have:¬ (off<=i/\i<off+0):=by omega
  simp only [cI,List.getElem_map,List.getElem_range,if_neg this]
  simp [gY,h2]
theorem Rn (key aC:List Int) (c:Int) (off n:Nat) (xs:List Int) (h:off+n<xs.length) :
 (cI key aC c off n xs).set (off+n) (gI .u8 ((cI key aC c off n xs).getD (off+n) 0) (Au key aC c n))=cI key aC c off (n+1) xs:=by
 apply List.ext_getElem
 .simp [cI]
 .intro i h1 h2
  have hl:i<xs.length:=by simpa [cI] using h2
  rw [List.getElem_set]
  split
  .rename_i e
   subst e
   rw [rN _ _ _ _ _ _ h,if_neg (by omega)]
   simp only [cI,List.getElem_map,List.getElem_range]
   rw [if_pos (by omega),Nat.add_sub_cancel_left]
  .rename_i e
   simp only [cI,List.getElem_map,List.getElem_range]
   by_cases hc:off<=i/\i<off+n
   .rw [if_pos hc,if_pos (by omega)]
   .rw [if_neg hc,if_neg (by omega)]
def tws:List (Nat × Nat):=[(143,100),(152,99),(168,101),(227,102),(229,104),(232,103)]
def eY (f:Nat):Option Sum:=match Nat.beq f 165 with
 | true=>some (xG false)
 | false=>match Nat.beq f 172 with
   | true=>some (xG true)
   | false=>none
def aB:List (Nat × Nat):=[(3,0),(1,2),(2,4),(0,6),(5,8),(7,10),(8,11),(12,15),(13,16),(14,17),(15,18),(24,27)]
theorem mix:Tryz.prog.follows .mixedOrders=true:=by kernel_rfl
theorem aQh:Tryz.prog.funcs.toList.all (fun fn => !(fn.name == "runtime.NumGoroutine"))=true:=by kernel_rfl
theorem names (f:Nat) (fn:Func) (h:Tryz.prog.funcs[f]?=some fn):(fn.name == "runtime.NumGoroutine")=false:=by
 have hm:fn∈Tryz.prog.funcs.toList:=by
  have:=Array.mem_of_getElem? h
  simpa using this
 have:=List.all_eq_true.1 aQh fn hm
 simpa using this
theorem UO:∀ (args:Array Value) (w:World),(callFunc 143 args).run Tryz.prog w=(callFunc 100 args).run Tryz.prog w:=
 rF (twin := "math/big.subVV_g") Tryz.func143 Tryz.func100 rfl rfl (by kernel_rfl) (by kernel_rfl) (by kernel_rfl) (by kernel_rfl) rfl rfl
theorem UN:∀ (args:Array Value) (w:World),(callFunc 152 args).run Tryz.prog w=(callFunc 99 args).run Tryz.prog w:=
 rF (twin := "math/big.addVV_g") Tryz.func152 Tryz.func99 rfl rfl (by kernel_rfl) (by kernel_rfl) (by kernel_rfl) (by kernel_rfl) rfl rfl
theorem UM:∀ (args:Array Value) (w:World),(callFunc 168 args).run Tryz.prog w=(callFunc 101 args).run Tryz.prog w:=
 rF (twin := "math/big.lshVU_g") Tryz.func168 Tryz.func101 rfl rfl (by kernel_rfl) (by kernel_rfl) (by kernel_rfl) (by kernel_rfl) rfl rfl
theorem UL:∀ (args:Array Value) (w:World),(callFunc 227 args).run Tryz.prog w=(callFunc 102 args).run Tryz.prog w:=
 rF (twin := "math/big.rshVU_g") Tryz.func227 Tryz.func102 rfl rfl (by kernel_rfl) (by kernel_rfl) (by kernel_rfl) (by kernel_rfl) rfl rfl
theorem UK:∀ (args:Array Value) (w:World),(callFunc 229 args).run Tryz.prog w=(callFunc 104 args).run Tryz.prog w:=
 rF (twin := "math/big.addMulVVWW_g") Tryz.func229 Tryz.func104 rfl rfl (by kernel_rfl) (by kernel_rfl) (by kernel_rfl) (by kernel_rfl) rfl rfl
theorem UJ:∀ (args:Array Value) (w:World),(callFunc 232 args).run Tryz.prog w=(callFunc 103 args).run Tryz.prog w:=
 rF (twin := "math/big.mulAddVWW_g") Tryz.func232 Tryz.func103 rfl rfl (by kernel_rfl) (by kernel_rfl) (by kernel_rfl) (by kernel_rfl) rfl rfl
theorem aGg (f g:Nat) (h:look f tws=some g):∀ (args:Array Value) (w:World),(callFunc f args).run Tryz.prog w=(callFunc g args).run Tryz.prog w:=by
 have hm:=gA h
 simp only [tws,List.mem_cons,List.not_mem_nil,or_false,Prod.mk.injEq] at hm
 rcases hm with ⟨rfl,rfl⟩ | ⟨rfl,rfl⟩ | ⟨rfl,rfl⟩ | ⟨rfl,rfl⟩ | ⟨rfl,rfl⟩ | ⟨rfl,rfl⟩
 .exact UO
 .exact UN
 .exact UM
 .exact UL
 .exact UK
 .exact UJ
theorem PH (Γ:Env):aG Tryz.prog Γ 165 (xG false):=Gw false fun args w=>by
 rw [run_callFunc_extern Tryz.func165 (by kernel_rfl) (by kernel_rfl) (by kernel_rfl) (e:=add64Entry) (by kernel_rfl)]
 simp only [Sem.run_bind,Sem.run_pure]
theorem JM (Γ:Env):aG Tryz.prog Γ 172 (xG true):=Gw true fun args w=>by
 rw [run_callFunc_extern Tryz.func172 (by kernel_rfl) (by kernel_rfl) (by kernel_rfl) (e:=Qa) (by kernel_rfl)]
 simp only [Sem.run_bind,Sem.run_pure]
theorem tD (f:Nat) (S:Sum) (h:eY f=some S) (Γ:Env):aG Tryz.prog Γ f S:=by
 unfold eY at h
 split at h
 .rename_i hb;have:=cP hb;subst this;cases h;exact PH Γ
 .split at h
  .rename_i hb;have:=cP hb;subst this;cases h;exact JM Γ
  .cases h
def TV:List Nat:=[407]
theorem aKt:(Tryz.prog.info? 407).all (fun i=>i.comparable)=true:=by kernel_rfl
theorem aBa:Tryz.prog.stoodInHeld 407=false:=by kernel_rfl
theorem aBn (t:Nat) (h:TV.elem t=true):(∀ i,Tryz.prog.info? t=some i->i.comparable=true)/\Tryz.prog.stoodInHeld t=false:=by
 have e:t=407:=by simpa [TV] using h
 subst e
 refine ⟨fun i hi=>?_,aBa⟩
 have:=aKt
 rw [hi] at this
 simpa using this
theorem aIa (ex:Nat->Option Sum) (hex:∀ f S,ex f=some S->∀ Γ:Env,Γ.aO=aB->aG Tryz.prog Γ f S):JD Tryz.prog aB TV ex tws:=
 ⟨mix,names,aBn,⟨_,rfl⟩,aGg,hex⟩
noncomputable def env (ex:Nat->Option Sum) (n:Nat):Env:=Kn Tryz.prog aB TV ex tws 400 n
theorem bV (ex:Nat->Option Sum) (hex:∀ f S,ex f=some S->∀ Γ:Env,Γ.aO=aB->aG Tryz.prog Γ f S) (n:Nat):cF Tryz.prog (env ex n):=aBb (aIa ex hex) 400 n
theorem bL (ex:Nat->Option Sum) (n:Nat):cD Tryz.prog (env ex n):=cD.prog pC.1
def Ej:List (Nat × SB):=[(10,.eQ [.int true .u32 1634760805,.int true .u32 857760878,.int true .u32 2036477234,.int true .u32 1797285236]),(11,.eQ ([0,4,8,12,1,5,9,13,2,6,10,14,3,7,11,15,0,5,10,15,1,6,11,12,2,7,8,13,3,4,9,14].map fun n=>.int true .i64 n))]
theorem AY (key aC:List Int) (c:Int):aK (env eY 6) Tryz.f68 true [] 400 [.agg (cN .u8 32 key),.int false .u32 c,.agg (cN .u8 12 aC)] (fun l=>look l Ej) 100 100 =
 some { val:=.agg ((B.block key aC c).map (.int false .u8)) }:=by kernel_rfl
def cA:List Prop->Prop
 | []=>True
 | p::r=>p/\cA r
theorem aA:∀ {l:List Prop},cA l->∀ q∈l,q
 | [],_,q,hq=>by cases hq
 | p::r,h,q,hq=>by
   rcases List.mem_cons.1 hq with rfl | hq
   .exact h.1
   .exact aA h.2 q hq
theorem wF (V:bA) (k:IntKind):∀ xs:List Int,aJ V (xs.map (SV.int false k))=some (xs.map (Value.int k))
 | []=>rfl
 | x::xs=>by simp [aJ,den,wF V k xs]
theorem mS (V:bA) (k:IntKind) (xs:List Int):den V (.agg (xs.map (SV.int false k)))=den V (.ai k xs):=by
 simp only [den,wF,gL]
theorem bG (V:bA) {k:IntKind} {n:Nat} {xs:List Int} (h:xs.length=n):den V (.agg (cN k n xs))=den V (.ai k xs):=by
 simp only [den,vY h,gL]
theorem aF.words {P:Program} {Γ Γ':Env} {f:FuncId} {vs Jr:List SV} {T T':aX} {lab F:Nat} {e e':bK} (h:aF P Γ f vs T lab F e) (hg:Γ'.aO=Γ.aO) (hv:∀ V,aJ V Jr=aJ V vs) (hT:∀ l B,T l=some B->T' l=some B)
 (he:∀ V,den V e.val=den V e'.val) (hn:e'.new=e.new) (hw:e'.wr=e.wr):aF P Γ' f Jr T' lab F e':=by
 intro w0 M V T2 w xs aR Hm Xf hf hF hx o a K Q hK
 refine h w0 M V T2 w xs (fun l B hl=>aR l B (hT l B hl)) Hm (fun n l hl=>Xf n l (by rw [hg];exact hl)) hf hF ((hv V).symm.trans hx) o a K Q fun V' x w' h1 h2 h3=>hK V' x w' h1 ((he V').symm.trans h2) ?_
 have:eT T2 lab e'=eT T2 lab e:=by funext l;simp only [eT,bK.eW,hn,hw]
 rw [this]
 exact h3
noncomputable def yM (vs:List SV) (F:Nat):St:={ g:=(Br vs 0 .lf).getD .lf,tb:=.lf,nx:=F,ws:=[],ob:=[],hs:=[] }
def codeOf (f:Func):Code:=f.body.getD .skip
theorem Jo (a:Int) (j:Nat):IntKind.u32.wrap (IntKind.u32.wrap (a+j)+1)=IntKind.u32.wrap (a+(j+1:Nat)):=by
 simp only [IntKind.wrap_u32];omega
theorem mL (n:Nat):cF Tryz.prog (env eY n):=bV eY (fun f S h Γ _=>tD f S h Γ) n
theorem Sw (key aC:List Int) (c:Int) (hk:key.length=32) (hn:aC.length=12) (Γ:Env) (hg:Γ.aO=aB) :
 aF Tryz.prog Γ 68 [.ai .u8 key,.int false .u32 c,.ai .u8 aC] (fun l=>look l Ej) 100 100 { val:=.ai .u8 (B.block key aC c) }:=by
 have hs:aG Tryz.prog (env eY 6) 68 (aK (env eY 6) Tryz.f68 true [] 400):=
  aN (bL eY 6) (mL 6) mix Tryz.func68 (by kernel_rfl) true [] 400
 refine (hs.call (AY key aC c) (by simp)).words (by rw [hg];rfl) (fun V=>?_) (fun _ _ h=>h) (fun V=>mS V _ _) rfl rfl
 simp only [aJ,bG V hk,bG V hn]
def Ni (vs:List SV) (_:aX):Option Canon:=match vs with
 | [ks,.int _ .u32 c,ns]=>match cL ks,cL ns with
   | some (.u8,k),some (.u8,n)=>some { eL:=[.ai .u8 k,.int false .u32 c,.ai .u8 n],T0:=Ej,vl:=[],e0:={ val:=.ai .u8 (B.block k n c) },conds:=[k.length=32,n.length=12] }
   | _,_=>none
 | _=>none
def IZ:Sum:=aL aB 100 Ni
theorem PF (Γ:Env) (hg:Γ.aO=aB):aG Tryz.prog Γ 68 IZ:=by
 refine aY hg fun vs T c hd hc=>?_
 unfold Ni at hd
 split at hd
 case h_2=>cases hd
 split at hd
 case h_2=>cases hd
 cases hd
 exact Sw _ _ _ (hc _ (by simp)) (hc _ (by simp)) Γ hg
def exX (f:Nat):Option Sum:=match Nat.beq f 68 with
 | true=>some IZ
 | false=>eY f
theorem aKo (f:Nat) (S:Sum) (h:exX f=some S) (Γ:Env) (hg:Γ.aO=aB):aG Tryz.prog Γ f S:=by
 unfold exX at h
 split at h
 .rename_i hb;have:=cP hb;subst this;cases h;exact PF Γ hg
 .exact tD f S h Γ
noncomputable def ΓX:Env:=env exX 8
theorem aFw:cF Tryz.prog ΓX:=bV exX aKo 8
def Tl (key aC:List Int) (c:Int) (off len cap:Nat):List SV:=[.ai .u8 key,.int false .u32 c,.ai .u8 aC,.aH 60 false off len cap]
def yQ (xs:List Int) (ty:Nat):aX:=fun l=>look l ((60,.ints .u8 xs ty)::Ej)
def QI (c:Int) (off len cap:Nat) (i:Int):List (Nat × SV):=[(1,.int false .u32 c),(3,.aH 60 false off len cap),(4,.ptr 100 true 0),(6,.ptr 101 true 0),(8,.ptr 102 true 0),(11,.int false .i64 len),(12,.int false .i64 i)]
def QH (ty:Nat) (key aC xs aT:List Int):List (Nat × SB):=[(60,.ints .u8 xs ty),(100,.ints .u8 key 23),(101,.ints .u8 aC 74),(102,.ints .u8 aT 105)]
noncomputable def Tm:Code:=match (fX ΓX (aZ 100 (yQ [] 5)) 100 Tryz.f37.ntmps [3] 0 400 (.go (codeOf Tryz.f37)) [] (yM (Tl [] [] 0 0 0 0) 100)) with
 | some ⟨.go (.loop L),_,_⟩=>L
 | _=>.skip
theorem aOu (key aC xs iJ Kr:List Int) (c c':Int) (ty off len cap:Nat) (i':Int) :
 (BP 100 (aZ 100 (yQ xs ty)) [100,108,116] (QI c' off len cap i') (QH ty key aC iJ Kr) 103 [60] [] (fX ΓX (aZ 100 (yQ xs ty)) 100 Tryz.f37.ntmps [3] 0 400 (.go (codeOf Tryz.f37)) [] ((yM (Tl key aC c off len cap) 100).hint []))) =
 some (.go (.loop Tm),[.aT 0],[c=c',off=off,len=len,cap=cap,(↑len:Int)=(↑len:Int),0=i',xs=iJ/\ty=ty,key=key/\23=23,aC=aC/\74=74,0::0::0::0::0::0::0::0::0::0::0::0::0::0::0::0::0::0::0::0::0::0::0::0::0::0::0::0::0::0::0::0::0::0::0::0::0::0::0::0::0::0::0::0::0::0::0::0::0::0::0::0::0::0::0::0::0::0::(fun x=>0::x) ((fun x=>0::x) ((fun x=>0::x) ((fun x=>0::x) ((fun x=>0::x) ((fun x=>0::x) [])))))=Kr/\105=105]):=by kernel_rfl
theorem aOt (key aC xs gV aT iJ Kr:List Int) (c c':Int) (ty off len cap:Nat) (i i':Int) :
 BP 100 (aZ 100 (yQ gV ty)) [100,101,102] (QI c' off len cap i') (QH ty key aC iJ Kr) 103 [60] [] (fX ΓX (aZ 100 (yQ gV ty)) 100 Tryz.f37.ntmps [3] 0 400 (.go Tm) [] ((bQ (QI c off len cap i) (QH ty key aC xs aT) 103 [60] []).hint [true,true])) =
 sh (↑len:Int) fun z0=>
 sh (B.block key aC c) fun z1=>
 some (Cf.at Ex.normal,[],[off+i.toNat*1<xs.length,0<=i/\i<z0,0+(i.tmod 64).toNat*1+1<=z1.length,0<=i.tmod 64/\i.tmod 64<64,off+i.toNat*1+1<=xs.length,0<=i/\i<z0,z1.length=64/\aT.length=64,key.length=32,aC.length=12,key=key,c=c,aC=aC,aC.length=12,key.length=32,(i.tmod 64==0)=true,decide (i<z0)=true,IntKind.u32.wrap (c+1)=c',off=off,len=len,cap=cap,z0=z0,IntKind.i64.wrap (i+1)=i',xs.set (off+i.toNat*1) (gI IntKind.u8 (xs.getD (off+i.toNat*1+0) 0) (z1.getD (0+(i.tmod 64).toNat*1+0) 0))=iJ/\ty=ty,key=key/\23=23,aC=aC/\74=74,B.block key aC c=Kr/\105=105]):=by kernel_rfl
theorem aOs (key aC xs gV aT iJ Kr:List Int) (c c':Int) (ty off len cap:Nat) (i i':Int) :
 BP 100 (aZ 100 (yQ gV ty)) [100,101,102] (QI c' off len cap i') (QH ty key aC iJ Kr) 103 [60] [] (fX ΓX (aZ 100 (yQ gV ty)) 100 Tryz.f37.ntmps [3] 0 400 (.go Tm) [] ((bQ (QI c off len cap i) (QH ty key aC xs aT) 103 [60] []).hint [true,false])) =
 sh (↑len:Int) fun z0=>
 some (Cf.at Ex.normal,[],[off+i.toNat*1<xs.length,0<=i/\i<z0,0+(i.tmod 64).toNat*1+1<=aT.length,0<=i.tmod 64/\i.tmod 64<64,off+i.toNat*1+1<=xs.length,0<=i/\i<z0,(i.tmod 64==0)=false,decide (i<z0)=true,c=c',off=off,len=len,cap=cap,z0=z0,IntKind.i64.wrap (i+1)=i',xs.set (off+i.toNat*1) (gI IntKind.u8 (xs.getD (off+i.toNat*1+0) 0) (aT.getD (0+(i.tmod 64).toNat*1+0) 0))=iJ/\ty=ty,key=key/\23=23,aC=aC/\74=74,aT=Kr/\105=105]):=by kernel_rfl
theorem aOr (key aC xs gV aT:List Int) (c:Int) (ty off len cap:Nat) (i:Int) :
 BP 100 (aZ 100 (yQ gV ty)) [100,101,102] (QI c off len cap i) (QH ty key aC xs aT) 103 [60] [] (fX ΓX (aZ 100 (yQ gV ty)) 100 Tryz.f37.ntmps [3] 0 400 (.go Tm) [] ((bQ (QI c off len cap i) (QH ty key aC xs aT) 103 [60] []).hint [false])) =
 sh (↑len:Int) fun z0=>
 some (Cf.at (Ex.exit 0),[],[decide (i<z0)=false,c=c,off=off,len=len,cap=cap,z0=z0,i=i,xs=xs/\ty=ty,key=key/\23=23,aC=aC/\74=74,aT=aT/\105=105]):=by kernel_rfl
theorem aOq (key aC xs gV aT:List Int) (c:Int) (ty off len cap:Nat) (i:Int) :
 Kq ΓX (yQ gV ty) 100 100 Tryz.f37 (fX ΓX (aZ 100 (yQ gV ty)) 100 Tryz.f37.ntmps [3] 0 400 (.at (.exit 0)) [.aT 0] ((bQ (QI c off len cap i) (QH ty key aC xs aT) 103 [60] []).hint [])) =
 some {val:=SV.eD [],wr:=[(60,SB.ints IntKind.u8 xs ty)]}:=by kernel_rfl
theorem wG (key aC:List Int) (c:Int):(B.block key aC c).length=64:=by simp [B.block,B.out]
theorem JH (key aC xs:List Int) (c:Int) (ty off len cap:Nat) (hk:key.length=32) (hn:aC.length=12) (hx:off+len<=xs.length) (hl:len<=4611686018427387904) (hc:0<=c/\c<=4294967295) :
 aF Tryz.prog ΓX 37 (Tl key aC c off len cap) (yQ xs ty) 100 100 { val:=.eD [],wr:=[(60,.ints .u8 (cI key aC c off len xs) ty)] }:=by
 have aU:=bL exX 8
 have aV:=aFw
 refine fS aU aV Tryz.func37 (by kernel_rfl) rfl (jX (by kernel_rfl)) rfl [] ?_
 intro w0 M V0 Q hb H
 refine G.to aU aV mix hb [] (aOu key aC xs xs (List.replicate 64 0) c c ty off len cap 0) (aA (by simp [cA])) ?_
 refine G.loop (fun r s=>∃ (i:Nat) (aT:List Int),i<=len/\r=len-i/\aT.length=64/\(i%64≠0->aT=B.block key aC (IntKind.u32.wrap (c+(i/64:Nat)))) /\
  s=bQ (QI (IntKind.u32.wrap (c+((i+63)/64:Nat))) off len cap i) (QH ty key aC (cI key aC c off i xs) aT) 103 [60] []) (r0:=len)
  ⟨0,List.replicate 64 0,Nat.zero_le _,rfl,by simp,fun h=>absurd rfl h,by rw [Dj];simp [IntWalk.u32_in c hc]⟩ ?_
 rintro r s ⟨i,aT,hi,rfl,Tk,fF,rfl⟩
 have QY:((i:Int)).tmod 64=((i%64:Nat):Int):=by rw [Int.tmod_eq_emod_of_nonneg (by omega)];omega
 have Gz:=fU key aC c off i xs
 have Xe:IntKind.i64.wrap ((i:Int)+1)=((i+1:Nat):Int):=by rw [IntWalk.i64_in _ (by omega)];omega
 by_cases cM:i<len
 .have oP:∀ b:List Int,b.getD (i%64) 0=Au key aC c i->(cI key aC c off i xs).set (off+(i:Int).toNat*1) (gI IntKind.u8 ((cI key aC c off i xs).getD (off+(i:Int).toNat*1+0) 0) (b.getD (0+((i:Int).tmod 64).toNat*1+0) 0))=cI key aC c off (i+1) xs:=by
   intro b hb
   rw [<- Rn key aC c off i xs (by omega),<- hb]
   simp only [QY,sJ,Nat.mul_one,Nat.add_zero,Nat.zero_add]
  by_cases h64:i%64=0
  .have e1:(i+63)/64=i/64:=by omega
   have e2:(i+1+63)/64=i/64+1:=by omega
   refine G.round aU aV mix hb [true,true] (aOt key aC _ xs aT (cI key aC c off (i+1) xs) (B.block key aC (IntKind.u32.wrap (c+(i/64:Nat)))) (IntKind.u32.wrap (c+((i+63)/64:Nat))) (IntKind.u32.wrap (c+((i+1+63)/64:Nat))) ty off len cap i ((i+1:Nat):Int)) (aA ?_) (len-(i+1)) (by omega) ⟨i+1,_,cM,rfl,wG _ _ _,fun _=>by rw [show (i+1)/64=i/64 from by omega],rfl⟩
   simp only [sh,cA,wG,Xe,e1,e2,Jo]
   refine ⟨by omega,by omega,by omega,by omega,by omega,by omega,⟨trivial,Tk⟩,hk,hn,trivial,trivial,trivial,hn,hk,by rw [QY,h64];rfl,by simpa using cM,trivial,trivial,trivial,trivial,trivial,trivial,⟨oP _ rfl,trivial⟩,⟨trivial,trivial⟩,⟨trivial,trivial⟩,⟨trivial,trivial⟩,trivial⟩
  .have e1:(i+1+63)/64=(i+63)/64:=by omega
   refine G.round aU aV mix hb [true,false] (aOs key aC _ xs aT (cI key aC c off (i+1) xs) aT (IntKind.u32.wrap (c+((i+63)/64:Nat))) (IntKind.u32.wrap (c+((i+1+63)/64:Nat))) ty off len cap i ((i+1:Nat):Int)) (aA ?_) (len-(i+1)) (by omega) ⟨i+1,aT,cM,rfl,Tk,fun h=>by rw [fF h64];congr 4;omega,rfl⟩
   simp only [sh,cA,Xe,e1]
   refine ⟨by omega,by omega,by omega,by omega,by omega,by omega,by rw [QY];simpa using by omega,by simpa using cM,trivial,trivial,trivial,trivial,trivial,trivial,⟨oP _ (by rw [fF h64];rfl),trivial⟩,⟨trivial,trivial⟩,⟨trivial,trivial⟩,⟨trivial,trivial⟩,trivial⟩
 .have hil:i=len:=by omega
  subst hil
  refine G.to aU aV mix hb [false] (aOr key aC _ xs aT _ ty off i cap i) (aA (by simp [cA])) (G.leave (by simp) ?_)
  exact G.fin aU aV mix [] H (aOq key aC _ xs aT _ ty off i cap i) (by simp) rfl rfl rfl
def Bq:SB->Option (IntKind × List Int × Nat)
 | .ints k xs t=>some (k,xs,t)
 | .own cs t=>(uA cs).map fun p=>(p.1,p.2,t)
 | _=>none
def HE (vs:List SV) (T:aX):Option Canon:=match vs with
 | [ks,.int _ .u32 c,ns,.aH l _ off len cap]=>match cL ks,cL ns with
   | some (.u8,k),some (.u8,n)=>match T l with
     | some B=>match Bq B with
       | some (.u8,xs,ty)=>some { eL:=Tl k n c off len cap,T0:=(60,.ints .u8 xs ty)::Ej,vl:=[(60,.lab l 0)],e0:={ val:=.eD [],wr:=[(60,.ints .u8 (cI k n c off len xs) ty)] },conds:=[k.length=32,n.length=12,off+len<=xs.length,len<=4611686018427387904,0<=c/\c<=4294967295] }
       | _=>none
     | none=>none
   | _,_=>none
 | _=>none
def aMg:Sum:=aL aB 100 HE
theorem aFz (Γ:Env) (hg:Γ.aO=aB):aG Tryz.prog Γ 37 aMg:=by
 refine aY hg fun vs T c hd hc=>?_
 unfold HE at hd
 split at hd
 case h_2=>cases hd
 split at hd
 case h_2=>cases hd
 split at hd
 case h_2=>cases hd
 split at hd
 case h_2=>cases hd
 cases hd
 exact (JH _ _ _ _ _ _ _ _ (hc _ (by simp)) (hc _ (by simp)) (hc _ (by simp)) (hc _ (by simp)) (hc _ (by simp))).words (by rw [hg];rfl) (fun _=>rfl) (fun _ _ h=>h) (fun _=>rfl) rfl rfl
def Dv:aX:=fun l=>look l []
noncomputable def Eu (r:Option nM):Code:=match r with
 | some ⟨.go (.loop L),_,_⟩=>L
 | _=>.skip
noncomputable def Be (r:Option nM):List Fr:=match r with
 | some ⟨_,fr,_⟩=>fr
 | none=>[]
theorem aM {p:Prop} {l:List Prop} (hp:p) (hl:∀ q∈l,q):∀ q∈p::l,q:=fun q hq=>(List.mem_cons.1 hq).elim (fun e=>e ▸ hp) (hl q)
theorem fO:∀ q∈([]:List Prop),q:=fun q hq=>by cases hq
theorem qI {l l':List Prop} (h1:∀ q∈l,q) (h2:∀ q∈l',q):∀ q∈l++l',q:=fun q hq=>(List.mem_append.1 hq).elim (h1 q) (h2 q)
def siV (key aC:List Int) (c:Int):List SV:=[.int true .u32 1634760805,.int true .u32 857760878,.int true .u32 2036477234,.int true .u32 1797285236]++((List.range 8).map (B.word key)).map (.int false .u32)++[.int false .u32 c]++((List.range 3).map (B.word aC)).map (.int false .u32)
theorem aGm (key aC:List Int) (c:Int):aK (env eY 4) Tryz.f79 true [] 400 [.agg (cN .u8 32 key),.int false .u32 c,.agg (cN .u8 12 aC)] Dv 100 100=some { val:=.agg (siV key aC c) }:=by kernel_rfl
theorem XU (s:List Int):aK (env eY 4) Tryz.f85 true [] 400 [.agg (cN .u32 16 s)] Dv 100 100=some { val:=.agg ((B.out (B.rounds 10 (dE 16 s)) (dE 16 s)).map (.int false .u8)) }:=by kernel_rfl
noncomputable def Aj:Env:=env eY 4
theorem Io:cD Tryz.prog Aj:=bL _ 4
theorem Ip:cF Tryz.prog Aj:=mL 4
def aDv (off:Nat) (b:List Int):List SV:=[.ptr 60 false off,.ai .u8 b]
def tR (xs:List Int) (t:TypeId):aX:=fun l=>look l [(60,.ints .u8 xs t)]
noncomputable def tuM (xs:List Int) (t:TypeId) (cf:Cf) (K:List Fr) (s:St):Option nM:=fX Aj (aZ 100 (tR xs t)) 100 Tryz.f84.ntmps [2] 400 3000 cf K s
def Pc (off:Nat) (i:Int):List (Nat × SV):=[(0,.ptr 60 false off),(3,.ptr 100 true 0),(5,.int false .i64 i)]
def Pb (xs b:List Int) (t:TypeId):List (Nat × SB):=[(60,.ints .u8 xs t),(100,.ints .u8 b 105)]
noncomputable def tuR:Option nM:=tuM [] 0 (.go (codeOf Tryz.f84)) [] ((yM (aDv 0 []) 100).hint [])
noncomputable def aDw:Code:=Eu tuR
noncomputable def tuK:List Fr:=Be tuR
theorem aTv (xs iJ b b':List Int) (t:TypeId) (off fE:Nat) (i':Int) :
 (eJ 100 Tryz.f84.ntmps (aZ 100 (tR xs t)) [] (Pc fE i') (Pb iJ b' t) 101 [60] [] (tuM xs t (.go (codeOf Tryz.f84)) [] ((yM (aDv off b) 100).hint []))) =
 some (.go (.loop aDw),tuK,
  [off=fE,(0:Int)=i',xs=iJ/\t=t,b=b'/\(105:Nat)=(105:TypeId)]):=by kernel_rfl
theorem aTu (gV xs iJ b b':List Int) (t:TypeId) (off fE:Nat) (i i':Int) :
 (eJ 100 Tryz.f84.ntmps (aZ 100 (tR gV t)) [] (Pc fE i') (Pb iJ b' t) 101 [60] [] (tuM gV t (.go aDw) [] ((bQ (Pc off i) (Pb xs b t) 101 [60] []).hint [true]))) =
 some (.at .normal,[],
  [off+i.toNat*(1:Nat)<xs.length,(0:Int)<=i/\i<(64:Int),(0:Nat)+i.toNat*(1:Nat)+(1:Nat)<=b.length,(0:Int)<=i/\i<(64:Int),
  off+i.toNat*(1:Nat)+(1:Nat)<=xs.length,(0:Int)<=i/\i<(64:Int),decide (i<(64:Int))=true,off=fE,IntKind.i64.wrap (i+(1:Int))=i',
  xs.set (off+i.toNat*(1:Nat)) (gI IntKind.u8 (xs.getD (off+i.toNat*(1:Nat)+0) (0:Int)) (b.getD ((0:Nat)+i.toNat*(1:Nat)+0) (0:Int)))=iJ/\t=t,
  b=b'/\(105:TypeId)=(105:TypeId)]):=by kernel_rfl
theorem aTt (gV xs iJ b b':List Int) (t:TypeId) (off fE:Nat) (i i':Int) :
 (eJ 100 Tryz.f84.ntmps (aZ 100 (tR gV t)) [] (Pc fE i') (Pb iJ b' t) 101 [60] [] (tuM gV t (.go aDw) [] ((bQ (Pc off i) (Pb xs b t) 101 [60] []).hint [false]))) =
 some (.at (.exit 0),[],
  [decide (i<(64:Int))=false,off=fE,i=i',xs=iJ/\t=t,b=b'/\(105:TypeId)=(105:TypeId)]):=by kernel_rfl
theorem aTs (gV xs b:List Int) (t:TypeId) (off:Nat) (i:Int) :
 qF Aj (tR gV t) 100 100 Tryz.f84 [] (tuM gV t (.at (.exit 0)) tuK ((bQ (Pc off i) (Pb xs b t) 101 [60] []).hint [])) =
 some { val:=SV.eD [],wr:=[(60,SB.ints IntKind.u8 xs t)] }:=by kernel_rfl
end Go.Proofs.YtnodfocobmghiaaGreatDoor.Sx
