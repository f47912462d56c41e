/- The symbolic executor, thirty-third text: a state said in other words; runs up to a loop, told by what is owed. -/
import Derived.Test.YtnodfocobmghiaaGreatDoorProg
import Derived.KernelRfl
import Derived.Test.YtnodfocobmghiaaGreatDoorQB
open Go
set_option maxRecDepth 100000
namespace Go.Proofs.YtnodfocobmghiaaGreatDoor.Sx
def eqI (s s':Bool) (a b:Int):List Prop:=match s&&s' with
 | true=>match Jg a b with
   | true=>[]
   | false=>[a=b]
 | false=>[a=b]
theorem aHp {s s':Bool} {a b:Int} (h:∀ q∈eqI s s' a b,q):a=b:=by
 unfold eqI at h
 split at h
 .split at h
  .rename_i hb;exact Ud hb
  .exact h _ (by simp)
 .exact h _ (by simp)
def Mg (s s':Bool) (a b:Nat):List Prop:=match s&&s' with
 | true=>match Nat.beq a b with
   | true=>[]
   | false=>[a=b]
 | false=>[a=b]
theorem jD {s s':Bool} {a b:Nat} (h:∀ q∈Mg s s' a b,q):a=b:=by
 unfold Mg at h
 split at h
 .split at h
  .rename_i hb;exact cM hb
  .exact h _ (by simp)
 .exact h _ (by simp)
def Vd:List SV->Bool
 | []=>true
 | .int true _ _::r=>Vd r
 | .bool true _::r=>Vd r
 | _=>false
theorem Bh {V V':bA}:∀ {cs:List SV},Vd cs=true->aI V cs=aI V' cs
 | [],_=>rfl
 | v::r,h=>by
   unfold Vd at h
   split at h
   .rename_i e;cases e
   .rename_i e;cases e;simp only [aI,den,Bh (V:=V) (V':=V') h]
   .rename_i e;cases e;simp only [aI,den,Bh (V:=V) (V':=V') h]
   .cases h
def zP (cs ds:List SV) (els:Option (List Prop)):Option (List Prop):=match Vd cs&&Vd ds with
 | true=>match Jf cs ds with
   | true=>some []
   | false=>none
 | false=>match tC cs,tC ds with
   | some (k,ns),some (k',ms)=>match pJ k k' with
     | true=>some [ns=ms]
     | false=>none
   | _,_=>els
theorem tS {cs ds:List SV} {els:Option (List Prop)} {ps:List Prop} (h:zP cs ds els=some ps) (hp:∀ q∈ps,q):(∀ V V',aI V' ds=aI V cs)\/els=some ps:=by
 unfold zP at h
 split at h
 .rename_i hl
  simp only [iG] at hl
  split at h
  .rename_i hb
   left
   intro V V'
   rw [<- yJ hb]
   exact Bh hl.1
  .cases h
 .split at h
  .rename_i h1 h2
   split at h
   .rename_i hk
    cases h
    have e:=hp _ dB
    have hk:_=_:=jG hk
    subst e hk
    left
    intro V V'
    rw [Bi h1,Bi h2]
   .cases h
  .exact .inr h
mutual
def fY:SV->SV->Option (List Prop)
 | .int s k n,.int s' k' n'=>match pJ k k' with
   | true=>some (eqI s s' n n')
   | false=>none
 | .bool s b,.bool s' b'=>match s&&s' with
   | true=>match Nj b b' with
     | true=>some []
     | false=>none
   | false=>some [b=b']
 | .agg vs,.agg us=>zP vs us (vO vs us)
 | .ai k xs,.ai k' ys=>match pJ k k' with
   | true=>some [xs=ys]
   | false=>none
 | .agg vs,.ai k ys=>(cR k vs).map fun ns=>[ns=ys]
 | .ai k xs,.agg us=>(cR k us).map fun ns=>[xs=ns]
 | .eF vs,.eF us=>vO vs us
 | .ptr l s o,.ptr l' s' o'=>match Nat.beq l l' with
   | true=>some (Mg s s' o o')
   | false=>none
 | .aG l s o n c,.aG l' s' o' n' c'=>match Nat.beq l l' with
   | true=>some (Mg s s' o o'++(Mg s s' n n'++Mg s s' c c'))
   | false=>none
 | .dD l o n lo,.dD l' o' n' lo'=>match Nat.beq l l'&&(Nat.beq o o'&&Nat.beq lo lo') with
   | true=>some (Mg false false n n')
   | false=>none
 | .buf l,.buf l'=>match Nat.beq l l' with
   | true=>some []
   | false=>none
 | .Qr l n c z j le,.Qr l' n' c' z' j' le'=>match Nat.beq l l'&&(Nat.beq z z'&&Nat.beq le le') with
   | true=>some [n=n'/\c=c'/\j=j']
   | false=>none
 | .iS l o,.iS l' o'=>match Nat.beq l l' with
   | true=>some (Mg false false o o')
   | false=>none
 | .lS l lo hi,.lS l' lo' fP=>match Nat.beq l l' with
   | true=>some [lo=lo'/\hi=fP]
   | false=>none
 | .iA l n,.iA l' n'=>match Nat.beq l l' with
   | true=>some (Mg false false n n')
   | false=>none
 | .rC t v,.rC t' v'=>match Nat.beq t t' with
   | true=>fY v v'
   | false=>none
 | .fn (.func f) xs ys,.fn (.func g) us vs=>match Nat.beq f g with
   | true=>match vO xs us,vO ys vs with
     | some a,some b=>some (a++b)
     | _,_=>none
   | false=>none
 | .raw (.slice none 0 0),.raw (.slice none 0 0)=>some []
 | .raw (.pointer none),.raw (.pointer none)=>some []
 | .raw .nilIface,.raw .nilIface=>some []
 | .raw .nilFunc,.raw .nilFunc=>some []
 | .raw v,.raw v'=>some [v=v']
 | _,_=>none
def vO:List SV->List SV->Option (List Prop)
 | [],[]=>some []
 | v::r,u::t=>match fY v u,vO r t with
   | some a,some b=>some (a++b)
   | _,_=>none
 | _,_=>none
end
theorem jA {a b:List Prop} (h:∀ q∈a++b,q):∀ q∈a,q:=fun q hq=>h q (List.mem_append_left _ hq)
theorem fR {a b:List Prop} (h:∀ q∈a++b,q):∀ q∈b,q:=fun q hq=>h q (List.mem_append_right _ hq)
mutual
theorem jE {V:bA}:∀ {v u:SV} {ps:List Prop},fY v u=some ps->(∀ q∈ps,q)->den V u=den V v
 | .int s k n,u,ps,h,hp=>by
   cases u <;> simp only [fY] at h <;> first | (cases h;done) | skip
   split at h
   .rename_i hk
    cases h
    rw [aHp hp]
    have:k=_:=jG hk
    rw [this];rfl
   .cases h
 | .bool s b,u,ps,h,hp=>by
   cases u <;> simp only [fY] at h <;> first | (cases h;done) | skip
   split at h
   .split at h
    .rename_i hb;cases h;rw [qQ hb];rfl
    .cases h
   .cases h;have:=hp _ dB;subst this;rfl
 | .agg vs,u,ps,h,hp=>by
   cases u <;> simp only [fY] at h <;> first | (cases h;done) | skip
   case agg=>
    rcases tS h hp with e | e
    .simp only [den,e V V]
    .simp only [den,kP e hp]
   case ai=>
    simp only [dC] at h
    obtain ⟨ns,hn,rfl⟩:=h
    have e:=hp _ dB
    subst e
    simp only [den,cQ hn,gQ]
 | .ai k xs,u,ps,h,hp=>by
   cases u <;> simp only [fY] at h <;> first | (cases h;done) | skip
   case agg=>
    simp only [dC] at h
    obtain ⟨ns,hn,rfl⟩:=h
    have e:=hp _ dB
    subst e
    simp only [den,cQ hn,gQ]
   case ai=>
    split at h
    .rename_i hk
     cases h
     have e:=hp _ dB
     have hk:_=_:=jG hk
     subst e hk
     rfl
    .cases h
 | .eF vs,u,ps,h,hp=>by
   cases u <;> simp only [fY] at h <;> first | (cases h;done) | skip
   simp only [den,kP h hp]
 | .ptr l s o,u,ps,h,hp=>by
   cases u <;> simp only [fY] at h <;> first | (cases h;done) | skip
   split at h
   .rename_i hl;cases h;simp only [den,jD hp,cM hl]
   .cases h
 | .aG l s o n c,u,ps,h,hp=>by
   cases u <;> simp only [fY] at h <;> first | (cases h;done) | skip
   split at h
   .rename_i hl;cases h;simp only [den,jD (jA hp),jD (jA (fR hp)),jD (fR (fR hp)),cM hl]
   .cases h
 | .dD l o n c,u,ps,h,hp=>by
   cases u <;> simp only [fY] at h <;> first | (cases h;done) | skip
   split at h
   .rename_i hl
    simp only [iG] at hl
    obtain ⟨h1,h2,h4⟩:=hl
    cases h
    simp only [den,cM h1,cM h2,jD hp,cM h4]
   .cases h
 | .buf l,u,ps,h,hp=>by
   cases u <;> simp only [fY] at h <;> first | (cases h;done) | skip
   split at h
   .rename_i hl;simp only [den,cM hl]
   .cases h
 | .Qr l n c z j le,u,ps,h,hp=>by
   cases u <;> simp only [fY] at h <;> first | (cases h;done) | skip
   split at h
   .rename_i hl
    simp only [iG] at hl
    obtain ⟨h1,h2,h3⟩:=hl
    cases h
    obtain ⟨e1,e2,e3⟩:=hp _ dB
    simp only [den,cM h1,cM h2,cM h3,e1,e2,e3]
   .cases h
 | .iS l o,u,ps,h,hp=>by
   cases u <;> simp only [fY] at h <;> first | (cases h;done) | skip
   split at h
   .rename_i hl;cases h;simp only [den,jD hp,cM hl]
   .cases h
 | .lS l lo hi,u,ps,h,hp=>by
   cases u <;> simp only [fY] at h <;> first | (cases h;done) | skip
   split at h
   .rename_i hl;cases h;obtain ⟨e1,e2⟩:=hp _ dB;simp only [den,e1,e2,cM hl]
   .cases h
 | .iA l n,u,ps,h,hp=>by
   cases u <;> simp only [fY] at h <;> first | (cases h;done) | skip
   split at h
   .rename_i hl;cases h;simp only [den,jD hp,cM hl]
   .cases h
 | .rC t v,u,ps,h,hp=>by
   cases u <;> simp only [fY] at h <;> first | (cases h;done) | skip
   split at h
   .rename_i hl;simp only [den,jE h hp,cM hl]
   .cases h
 | .fn f xs ys,u,ps,h,hp=>by
   cases f with
   | func f=>
     cases u with
     | fn g us vs=>
       cases g with
       | func g=>
         simp only [fY] at h
         split at h
         .rename_i hf
          split at h
          .rename_i a b ha hb
           cases h
           simp only [den,kP ha (jA hp),kP hb (fR hp),cM hf]
          .cases h
         .cases h
       | _=>simp [fY] at h
     | _=>simp [fY] at h
   | _=>cases u <;> simp [fY] at h
 | .raw v,u,ps,h,hp=>by
   cases u with
   | raw v'=>
     unfold fY at h
     split at h
     all_goals first
      | (cases h;have e:=hp _ dB;rename_i e1 e2;cases e1;cases e2;rw [e];done)
      | (rename_i e1 e2;cases e1;cases e2;rfl)
      | (cases h;have e:=hp _ dB;rename_i e1 e2 _;cases e1;cases e2;rw [e];done)
      | (simp_all;done)
      | skip
   | _=>simp [fY] at h
theorem kP {V:bA}:∀ {vs us:List SV} {ps:List Prop},vO vs us=some ps->(∀ q∈ps,q)->aI V us=aI V vs
 | [],us,ps,h,hp=>by
   cases us with
   | nil=>rfl
   | cons=>simp [vO] at h
 | v::r,us,ps,h,hp=>by
   cases us with
   | nil=>simp [vO] at h
   | cons u t=>
     simp only [vO] at h
     split at h
     .rename_i a b ha hb
      cases h
      simp only [aI,jE ha (jA hp),kP hb (fR hp)]
     .cases h
end
def iP:SB->SB->Option (List Prop)
 | _,.gone=>some []
 | .own cs t,.own ds t'=>match Nat.beq t t' with
   | true=>zP cs ds (vO cs ds)
   | false=>none
 | .own cs t,.ints k xs t'=>match cR k cs with
   | some ns=>some [ns=xs/\t=t']
   | none=>none
 | .ints k xs t,.ints k' ys t'=>match pJ k k' with
   | true=>some [xs=ys/\t=t']
   | false=>none
 | .ints k xs t,.own ds t'=>match cR k ds with
   | some ns=>some [xs=ns/\t=t']
   | none=>none
 | .fL cs,.fL ds=>zP cs ds (vO cs ds)
 | .fL cs,.nA k xs=>(cR k cs).map fun ns=>[ns=xs]
 | .nA k xs,.nA k' ys=>match pJ k k' with
   | true=>some [xs=ys]
   | false=>none
 | .fM sz n t,.fM Za n' t'=>match Nat.beq sz Za&&Nat.beq t t' with
   | true=>some (Mg false false n n')
   | false=>none
 | .dL k xs t,.dL k' ys t'=>match Nat.beq t t'&&pJ k k' with
   | true=>some [xs=ys]
   | false=>none
 | .row z cs t,.row z' ds t'=>match Nat.beq t t'&&Nat.beq z z' with
   | true=>vO cs ds
   | false=>none
 | .eI vs t,.eI us t'=>match Nat.beq t t' with
   | true=>some [vs=us]
   | false=>none
 | .own cs t,.eI us t'=>match Nat.beq t t' with
   | true=>some [∀ V:bA,aI V cs=some us]
   | false=>none
 | .eI vs t,.own ds t'=>match Nat.beq t t' with
   | true=>some [∀ V:bA,aI V ds=some vs]
   | false=>none
 | .iT k xs,.iT k' ys=>match pJ k k' with
   | true=>some [xs=ys]
   | false=>none
 | .eH xs t,.eH ys t'=>match Nat.beq t t' with
   | true=>some [xs=ys]
   | false=>none
 | .qG xs,.qG ys=>some [xs=ys]
 | _,_=>none
theorem TL {V:bA} {w:World} {l:Nat} {B C:SB} {ps:List Prop} (h:iP B C=some ps) (hp:∀ q∈ps,q) (mV:okB V w l B) :
 okB V w l C/\(∀ n,C.aT V l=some n->B.aT V l=some n)/\(C.owned=B.owned\/C = .gone):=by
 have gone:∀ {D:SB},okB V w l .gone/\(∀ n,SB.gone.aT V l=some n->D.aT V l=some n)/\(SB.gone.owned=D.owned\/SB.gone = .gone):=fun {D}=>⟨⟨[],rfl,trivial⟩,(fun n hn=>by cases hn),Or.inr rfl⟩
 obtain ⟨cs,hc,h2⟩:=mV
 cases C with
 | gone=>exact gone
 | own ds t'=>
   cases B with
   | own es t=>
     have key:t=t'/\aI V ds=aI V es:=by
      simp only [iP] at h
      split at h
      .rename_i ht
       refine ⟨cM ht,?_⟩
       rcases tS h hp with e | e
       .exact e V V
       .exact kP e hp
      .cases h
     obtain ⟨rfl,hd⟩:=key
     exact ⟨⟨cs,hd.trans hc,h2⟩,fun n hn=>hn,.inl rfl⟩
   | ints k xs t=>
     simp only [iP] at h
     split at h
     .rename_i hk
      cases h
      obtain ⟨e,ht⟩:=hp _ dB
      subst e ht
      simp only [SB.cells,aV] at hc
      subst hc
      exact ⟨⟨_,cQ hk,h2⟩,fun n hn=>hn,.inl rfl⟩
     .cases h
   | eI vs t=>
     simp only [iP] at h
     split at h
     .rename_i ht
      cases h
      have e:=hp _ dB
      have h3:=cM ht
      subst h3
      simp only [SB.cells,aV] at hc
      subst hc
      exact ⟨⟨_,e V,h2⟩,fun n hn=>hn,.inl rfl⟩
     .cases h
   | _=>simp [iP] at h
 | ints k xs t'=>
   cases B with
   | own es t=>
     simp only [iP] at h
     split at h
     .rename_i hk
      cases h
      obtain ⟨e,ht⟩:=hp _ dB
      subst e ht
      have:some cs=some _:=hc.symm.trans (cQ hk)
      cases this
      exact ⟨⟨_,rfl,h2⟩,fun n hn=>hn,.inl rfl⟩
     .cases h
   | ints k2 ys t=>
     simp only [iP] at h
     split at h
     .rename_i ht
      cases h
      obtain ⟨e,h3⟩:=hp _ dB
      have h4:_=_:=jG ht
      subst e h3 h4
      exact ⟨⟨cs,hc,h2⟩,fun n hn=>hn,.inl rfl⟩
     .cases h
   | _=>simp [iP] at h
 | fL ds=>
   cases B with
   | fL es=>
     have hd:aI V ds=aI V es:=by
      simp only [iP] at h
      rcases tS h hp with e | e
      .exact e V V
      .exact kP e hp
     exact ⟨⟨cs,hd.trans hc,h2⟩,fun n hn=>hn,.inl rfl⟩
   | _=>simp [iP] at h
 | nA k xs=>
   cases B with
   | fL es=>
     simp only [iP,dC] at h
     obtain ⟨ns,hk,rfl⟩:=h
     have e:=hp _ dB
     subst e
     have:some cs=some _:=hc.symm.trans (cQ hk)
     cases this
     exact ⟨⟨_,rfl,h2⟩,fun n hn=>hn,.inl rfl⟩
   | nA k2 ys=>
     simp only [iP] at h
     split at h
     .rename_i ht
      cases h
      have e:=hp _ dB
      have h4:_=_:=jG ht
      subst e h4
      exact ⟨⟨cs,hc,h2⟩,fun n hn=>hn,.inl rfl⟩
     .cases h
   | _=>simp [iP] at h
 | fM z m t'=>
   cases B with
   | fM z2 m2 t=>
     simp only [iP] at h
     split at h
     .rename_i ht
      cases h
      simp only [iG] at ht
      have h3:=cM ht.1
      have h4:=cM ht.2
      have e:=jD hp
      subst h3 h4 e
      exact ⟨⟨cs,hc,h2⟩,fun n hn=>hn,.inl rfl⟩
     .cases h
   | _=>simp [iP] at h
 | dL k xs t'=>
   cases B with
   | dL k2 ys t=>
     simp only [iP] at h
     split at h
     .rename_i ht
      cases h
      simp only [iG] at ht
      have e:=hp _ dB
      have h3:=cM ht.1
      have h4:_=_:=jG ht.2
      subst e h3 h4
      exact ⟨⟨cs,hc,h2⟩,fun n hn=>hn,.inl rfl⟩
     .cases h
   | _=>simp [iP] at h
 | row z ds t'=>
   cases B with
   | row z2 es t=>
     simp only [iP] at h
     split at h
     .rename_i ht
      simp only [iG] at ht
      have h3:=cM ht.1
      have h4:=cM ht.2
      subst h3 h4
      exact ⟨⟨cs,(kP h hp).trans hc,h2⟩,fun n hn=>hn,.inl rfl⟩
     .cases h
   | _=>simp [iP] at h
 | iT k xs=>
   cases B with
   | iT k2 ys=>
     simp only [iP] at h
     split at h
     .rename_i ht
      cases h
      have e:=hp _ dB
      have h4:_=_:=jG ht
      subst e h4
      exact ⟨⟨cs,hc,h2⟩,fun n hn=>hn,.inl rfl⟩
     .cases h
   | _=>simp [iP] at h
 | qG ds=>
   cases B with
   | qG es=>
     simp only [iP,aV] at h
     subst h
     have e:=hp _ dB
     subst e
     exact ⟨⟨cs,hc,h2⟩,fun n hn=>hn,.inl rfl⟩
   | _=>simp [iP] at h
 | eH ds t'=>
   cases B with
   | eH es t=>
     simp only [iP] at h
     split at h
     .rename_i ht
      cases h
      have e:=hp _ dB
      have h3:=cM ht
      subst e h3
      exact ⟨⟨cs,hc,h2⟩,fun n hn=>hn,.inl rfl⟩
     .cases h
   | _=>simp [iP] at h
 | eI us t'=>
   cases B with
   | own es t=>
     simp only [iP] at h
     split at h
     .rename_i ht
      cases h
      have e:=hp _ dB
      have h3:=cM ht
      subst h3
      have:some cs=some us:=hc.symm.trans (e V)
      cases this
      exact ⟨⟨_,rfl,h2⟩,fun n hn=>hn,.inl rfl⟩
     .cases h
   | eI vs t=>
     simp only [iP] at h
     split at h
     .rename_i ht
      cases h
      have e:=hp _ dB
      have h3:=cM ht
      subst e h3
      exact ⟨⟨cs,hc,h2⟩,fun n hn=>hn,.inl rfl⟩
     .cases h
   | _=>simp [iP] at h
noncomputable def zC {α:Type}:List (Nat × α)->Tr α
 | []=>.lf
 | (k,v)::r=>match Tr.put v 64 (zC r) k with
   | some t=>t
   | none=>.lf
theorem pQ {α:Type}:∀ {l:List (Nat × α)} (n:Nat) (v:α),(zC l).get n=some v->look n l=some v
 | [],n,v,h=>by rw [zC,Tr.kF] at h;cases h
 | (k,u)::r,n,v,h=>by
   unfold zC at h
   split at h
   .rename_i t ht
    rw [Tr.gF _ _ _ _ _ ht n] at h
    split at h
    .rename_i e;subst e;cases h;exact aK _ _ _
    .rename_i e;rw [aH (fun q=>e q.symm)];exact pQ n v h
   .rw [Tr.kF] at h;cases h
noncomputable def cG (gs:List (Nat × SV)) (tb:List (Nat × SB)) (nx:Nat) (ws:List Nat) (df:List SV):St:={ g:=zC gs,tb:=zC tb,nx:=nx,ws:=ws,ob:=[],df:=df,hs:=[] }
noncomputable def St.hint (s:St) (hs:List Bool):St:={ s with hs:=hs }
def Rv (g:Nat->Option SV):List (Nat × SV)->Option (List Prop)
 | []=>some []
 | (t,u)::r=>match g t with
   | some v=>match fY v u,Rv g r with
     | some a,some b=>some (a++b)
     | _,_=>none
   | none=>none
def Rw (g:Nat->Option SB):List (Nat × SB)->Option (List Prop)
 | []=>some []
 | (t,u)::r=>match g t with
   | some v=>match iP v u,Rw g r with
     | some a,some b=>some (a++b)
     | _,_=>none
   | none=>none
def ZO (o:Option SB):Bool:=match o with
 | some _=>true
 | none=>false
noncomputable def DU (F0:Nat) (B:bB) (gs:List (Nat × SV)) (tb:List (Nat × SB)) (nx:Nat) (ws:List Nat) (df:List SV) (s:St):Option (List Prop):=
 match Rv s.g.get gs,Rw (s.T B) tb,vO s.df df with
 | some a,some b,some c=>match Nat.beq s.nx nx&&((s.ws.all fun l=>ws.elem l)&&((ws.all fun l=>ZO ((zC tb).get l))&&tb.all fun p=>Nat.ble F0 p.1||ws.elem p.1)) with
   | true=>some (a++(b++c))
   | false=>none
 | _,_,_=>none
theorem Lj {g:Nat->Option SV}:∀ {gs:List (Nat × SV)} {ps:List Prop},Rv g gs=some ps->(∀ q∈ps,q)->∀ t u,look t gs=some u->∃ v,g t=some v/\∀ V,den V u=den V v
 | [],ps,h,hp,t,u,hl=>by cases hl
 | (k,u')::r,ps,h,hp,t,u,hl=>by
   simp only [Rv] at h
   split at h
   case h_2=>cases h
   rename_i v hv
   split at h
   case h_2=>cases h
   rename_i a b ha hb
   cases h
   by_cases e:k=t
   .subst e;rw [aK] at hl;cases hl;exact ⟨v,hv,fun V=>jE ha (jA hp)⟩
   .rw [aH e] at hl;exact Lj hb (fR hp) t u hl
theorem Lk {g:Nat->Option SB}:∀ {gs:List (Nat × SB)} {ps:List Prop},Rw g gs=some ps->(∀ q∈ps,q)->∀ t u,look t gs=some u->∃ v NK,g t=some v/\iP v u=some NK/\∀ q∈NK,q
 | [],ps,h,hp,t,u,hl=>by cases hl
 | (k,u')::r,ps,h,hp,t,u,hl=>by
   simp only [Rw] at h
   split at h
   case h_2=>cases h
   rename_i v hv
   split at h
   case h_2=>cases h
   rename_i a b ha hb
   cases h
   by_cases e:k=t
   .subst e;rw [aK] at hl;cases hl;exact ⟨v,a,hv,ha,jA hp⟩
   .rw [aH e] at hl;exact Lk hb (fR hp) t u hl
section
variable {P:Program} {Γ:Env} {w0:World} {M:Nat->Prop} {B:bB} {N F0:Nat} {V0:bA}
theorem Inv.cast (hb:oZ Γ B F0 V0) {gs:List (Nat × SV)} {tb:List (Nat × SB)} {nx:Nat} {ws:List Nat} {df:List SV} {s:St} {ps:List Prop} (h:DU F0 B gs tb nx ws df s=some ps) (hp:∀ q∈ps,q)
 {V:bA} {a:Act} {w:World} (hi:Inv P Γ w0 M B N F0 V0 s V a w):Inv P Γ w0 M B N F0 V0 (cG gs tb nx ws df) V a w:=by
 unfold DU at h
 split at h
 case h_2=>cases h
 rename_i pa pb pc ha Zo hc
 split at h
 case h_2=>cases h
 rename_i jT
 cases h
 simp only [iG] at jT
 obtain ⟨k1,k2,k3,k4⟩:=jT
 have k1:=cM k1
 subst k1
 have k2:∀ l,l∈s.ws->l∈ws:=fun l hl=>by simpa using List.all_eq_true.1 k2 l hl
 have hG:=Lj ha (jA hp)
 have hB:=Lk Zo (jA (fR hp))
 have hD:aI V df=aI V s.df:=kP hc (fR (fR hp))
 have src:∀ l b,(zC tb).get l=some b->∃ C,s.T B l=some C/\okB V w l b/\(∀ n,b.aT V l=some n->C.aT V l=some n)/\(b.owned=C.owned\/b = .gone):=by
  intro l b hl
  obtain ⟨C,NK,h4,h2,h3⟩:=hB l b (pQ l b hl)
  obtain ⟨r1,r2,r3⟩:=TL h2 h3 (hi.fA.ok l C h4)
  exact ⟨C,h4,r1,r2,r3⟩
 have low:∀ l,(zC tb).get l=none->∀ b,B l=some b->s.T B l=some b:=by
  intro l hl b Yu
  have cL:l<F0:=by
   apply Nat.lt_of_not_le
   intro q
   rw [hb.cut l q] at Yu
   cases Yu
  have hnw:l ∉ s.ws:=fun hm=>by
   have:=List.all_eq_true.1 k3 l (k2 l hm)
   rw [hl] at this
   cases this
  simp only [St.T,hi.ch l cL hnw,Yu]
 have Zu:∀ l b,(cG gs tb s.nx ws df).T B l=some b->∃ C,s.T B l=some C/\okB V w l b/\(∀ n,b.aT V l=some n->C.aT V l=some n)/\(b.owned=C.owned\/b = .gone):=by
  intro l b hl
  simp only [St.T,cG] at hl
  cases hg:(zC tb).get l with
  | some b'=>rw [hg] at hl;cases hl;exact src l _ hg
  | none=>
    rw [hg] at hl
    have:=low l hg b hl
    exact ⟨b,this,hi.fA.ok l b this,fun n hn=>hn,.inl rfl⟩
 refine ⟨fun t v hv=>?_,fun d v hv=>?_,hi.size,?_,⟨fun l b hl=>?_,fun l b l' b' n dJ hl sP ho Ie Vj=>?_,fun l b n hl ho Ie=>?_,hi.fA.frame⟩,hi.aR,hi.top,hi.le,hi.low,fun l hl hn=>?_,hi.nx,fun l hl=>?_⟩
 .obtain ⟨u,h1,h2⟩:=hG t v (pQ t v hv)
  rw [h2]
  exact hi.tmp t u h1
 .obtain ⟨u,h1,_⟩:=hG d v (pQ d v hv)
  exact hi.keys d u h1
 .obtain ⟨xs,h1,h2⟩:=hi.defers
  exact ⟨xs,hD.trans h1,h2⟩
 .exact (Zu l b hl).choose_spec.2.1
 .obtain ⟨C,h1,_,h3,h4⟩:=Zu l b hl
  obtain ⟨C',Mp,_,h3',_⟩:=Zu l' b' sP
  have hCo:C.owned=true:=by
   rcases h4 with h4 | h4
   .rw [<- h4];exact ho
   .subst h4;cases ho
  exact hi.fA.jI l C l' C' n dJ h1 Mp hCo (h3 n Ie) (h3' n Vj)
 .obtain ⟨C,h1,_,h3,h4⟩:=Zu l b hl
  have hCo:C.owned=true:=by
   rcases h4 with h4 | h4
   .rw [<- h4];exact ho
   .subst h4;cases ho
  exact hi.fA.perm l C n h1 hCo (h3 n Ie)
 .cases hg:(zC tb).get l with
  | none=>exact hg
  | some b=>
    have hm:=List.all_eq_true.1 k4 _ (fT (pQ l b hg))
    simp only [Bool.or_eq_true] at hm
    rcases hm with hm | hm
    .have:=kJ hm;omega
    .exact absurd (show l∈ws by simpa using hm) hn
 .cases hg:(cG gs tb s.nx ws df).T B l with
  | none=>rfl
  | some b=>obtain ⟨C,h1,_⟩:=Zu l b hg;rw [hi.hi l hl] at h1;cases h1
noncomputable def MG (F0:Nat) (B:bB) (fC:List Nat) (gs:List (Nat × SV)) (tb:List (Nat × SB)) (nx:Nat) (ws:List Nat) (df:List SV) (r:Option qH):Option (Cf × List Fr × List Prop):=match r with
 | some r=>match Rk F0 (gs.map (·.1)) fC [] r.st with
   | some s=>match DU F0 B gs tb nx ws df s with
     | some ps=>some (r.cf,r.fr,r.st.ob++ps)
     | none=>none
   | none=>none
 | none=>none
theorem G.to (aW:cA P Γ) (aY:cH P Γ) (iQ:P.follows .mixedOrders=true) (hb:oZ Γ B F0 V0) {stops:List Nat} {lf n:Nat} {cf Yw:Cf} {K K':List Fr} {s:St} (hs:List Bool) {fC:List Nat} {gs:List (Nat × SV)} {tb:List (Nat × SB)} {nx:Nat} {ws:List Nat} {df:List SV} {ps:List Prop} {Q:Exit->Act->World->Prop}
 (h:MG F0 B fC gs tb nx ws df (gV Γ B F0 N stops lf n cf K (s.hint hs))=some (Yw,K',ps)) (hp:∀ q∈ps,q) (hG:G P Γ w0 M B N F0 V0 Yw K' (cG gs tb nx ws df) Q):G P Γ w0 M B N F0 V0 cf K s Q:=by
 unfold MG at h
 split at h
 case h_2=>cases h
 rename_i r hr
 split at h
 case h_2=>cases h
 rename_i s1 h1
 split at h
 case h_2=>cases h
 rename_i NK h2
 cases h
 have dY:G P Γ w0 M B N F0 V0 cf K (s.hint hs) Q:=by
  refine G.run aW aY iQ hr (jA hp) (G.norm hb h1 ?_)
  intro V a w hi
  exact hG V a w (hi.cast hb h2 (fR hp))
 intro V a w hi
 exact dY V a w (hi.hints s.ob hs)
theorem G.round (aW:cA P Γ) (aY:cH P Γ) (iQ:P.follows .mixedOrders=true) (hb:oZ Γ B F0 V0) {stops:List Nat} {lf n:Nat} {cf:Cf} {K1 K:List Fr} {s:St} (hs:List Bool) {fC:List Nat} {gs:List (Nat × SV)} {tb:List (Nat × SB)} {nx:Nat} {ws:List Nat} {df:List SV} {ps:List Prop} {Q:Exit->Act->World->Prop} {S:Nat->St->Prop} {r:Nat}
 (h:MG F0 B fC gs tb nx ws df (gV Γ B F0 N stops lf n cf K1 (s.hint hs))=some (.at .normal,[],ps)) (hp:∀ q∈ps,q) (r':Nat) (cL:r'<r) (hS:S r' (cG gs tb nx ws df)) :
 G P Γ w0 M B N F0 V0 cf K1 s (Exit.then (fun a w=>∃ r',r'<r/\∃ s',S r' s'/\∃ V,Inv P Γ w0 M B N F0 V0 s' V a w) (KQ P K Q)):=
 G.to aW aY iQ hb hs h hp (G.again fun V _ _ hi=>⟨r',cL,_,hS,V,hi⟩)
noncomputable def Ja (Γ:Env) (T:bB) (lab F:Nat) (fn:Func) (r:Option qH):Option bK:=match r with
 | some r=>match r.cf,r.fr with
   | .at x,[]=>Iz Γ T lab F fn x r.st
   | _,_=>none
 | none=>none
theorem Xi {F lab:Nat} {s:St} {v:SV} {e:bK} (h:finish F lab s v=some e):e.bO=s.ob:=by
 unfold finish at h
 split at h
 .cases h
 .simp only at h
  split at h
  .cases h;rfl
  .cases h
theorem Ty {Γ:Env} {T:bB} {lab F:Nat} {fn:Func} {x:Ex} {s:St} {e:bK} (h:Iz Γ T lab F fn x s=some e):∀ q∈s.ob,q∈e.bO:=by
 have main:(match jV Γ (bI F T) F fn.ntmps s.df s with
   | some s=>match zF Γ s.g.get (s.T (bI F T)) fn.results.toList with
     | some (ob,rs)=>finish F lab (s.MI ob) (res rs)
     | none=>none
   | none=>none)=some e->∀ q∈s.ob,q∈e.bO:=by
  intro h q hq
  split at h
  case h_2=>cases h
  rename_i s2 h2
  split at h
  case h_2=>cases h
  rw [Xi h]
  exact List.mem_append_right _ (uL h2 q hq)
 cases x with
 | exit id=>cases h
 | normal=>exact main h
 | ret=>exact main h
theorem G.fin (aW:cA P Γ) (aY:cH P Γ) (iQ:P.follows .mixedOrders=true) {T:bB} {lab:Nat} {fn:Func} {e e':bK} {stops:List Nat} {lf n:Nat} {cf:Cf} {K:List Fr} {s:St} (hs:List Bool) {Q:Exit->Act->World->Prop}
 (H:∀ x s e',Iz Γ T lab F0 fn x s=some e'->(∀ q∈e'.bO,q)->e'.val=e.val->e'.new=e.new->e'.wr=e.wr->G P Γ w0 M (bI F0 T) fn.ntmps F0 V0 (.at x) [] s Q)
 (h:Ja Γ T lab F0 fn (gV Γ (bI F0 T) F0 fn.ntmps stops lf n cf K (s.hint hs))=some e') (hp:∀ q∈e'.bO,q) (h1:e'.val=e.val) (h2:e'.new=e.new) (h3:e'.wr=e.wr) :
 G P Γ w0 M (bI F0 T) fn.ntmps F0 V0 cf K s Q:=by
 unfold Ja at h
 split at h
 case h_2=>cases h
 rename_i r hr
 split at h
 case h_2=>cases h
 rename_i x hx hf
 have dY:G P Γ w0 M (bI F0 T) fn.ntmps F0 V0 cf K (s.hint hs) Q:=by
  refine G.run aW aY iQ hr (fun q hq=>hp q (Ty h q hq)) ?_
  rw [hx,hf]
  exact H x r.st e' h hp h1 h2 h3
 intro V a w hi
 exact dY V a w (hi.hints s.ob hs)
end
def dR (T:bB) (k:IntKind):SV->Option (List Prop × List Int)
 | .raw (.slice none 0 0)=>some ([],[])
 | .aG l _ off len cap=>match T l with
   | some (.ints k2 xs _)=>match pJ k k2 with
     | true=>some ([off+len<=xs.length/\len<=cap],(xs.drop off).take len)
     | false=>none
   | some (.nA k2 xs)=>match pJ k k2 with
     | true=>some ([off+len<=xs.length/\len<=cap],(xs.drop off).take len)
     | false=>none
   | some (.own cs _)=>match cR k cs with
     | some xs=>some ([off+len<=xs.length/\len<=cap],(xs.drop off).take len)
     | none=>none
   | some (.fL cs)=>match cR k cs with
     | some xs=>some ([off+len<=xs.length/\len<=cap],(xs.drop off).take len)
     | none=>none
   | _=>none
 | .buf l=>match T l with
   | some (.dL k2 xs _)=>match pJ k k2 with
     | true=>some ([],xs)
     | false=>none
   | _=>none
 | .lS l lo hi=>match T l with
   | some (.dL k2 xs _)=>match pJ k k2 with
     | true=>some ([lo<=hi/\hi<=xs.length],(xs.drop lo).take (hi-lo))
     | false=>none
   | _=>none
 | .iA l _=>match T l with
   | some (.iT k2 xs)=>match pJ k k2 with
     | true=>some ([],xs)
     | false=>none
   | _=>none
 | .dD l off len lo=>match T l with
   | some (.row sz cs _)=>match Nat.beq sz 1,cR k cs with
     | true,some xs=>some ([off+len<=xs.length/\lo<=off],(xs.drop off).take len)
     | _,_=>none
   | _=>none
 | _=>none
section
variable {w0 w:World} {M:Nat->Prop} {V:bA} {T:bB}
theorem Wc {k:IntKind} {v:SV} {x:Value} {ob:List Prop} {ys:List Int} (hT:aD w0 M V T w) (hv:den V v=some x) (h:dR T k v=some (ob,ys)) (ho:∀ q∈ob,q) :
 vP w k x ys/\∀ n,gX x=some n->∃ l B,Ju v=some l/\T l=some B/\B.aT V l=some n:=by
 have aG:∀ (l:Nat) (B:SB) (s:Bool) (off len cap:Nat) (xs:List Int),v = .aG l s off len cap->T l=some B->B.cells V=some (xs.map (Value.int k)) ->
  (∀ b o,V.β l=some (b,o)->b<w.heap.size/\B.aT V l=some b/\∀ (j:Nat) (u:Value),(xs.map (Value.int k))[j]?=some u->w.cell? ⟨b,o+j,none⟩=some u) ->
  off+len<=xs.length->len<=cap->ys=(xs.drop off).take len->vP w k x ys/\∀ n,gX x=some n->∃ l B,Ju v=some l/\T l=some B/\B.aT V l=some n:=by
  intro l B s off len cap xs hvv hB hc eZ h1 h2 pE
  subst hvv
  simp only [den,dC] at hv
  obtain ⟨⟨b,o⟩,hβ,rfl⟩:=hv
  obtain ⟨g1,g2,g3⟩:=eZ b o hβ
  have hlen:ys.length=len:=by rw [pE];simp;omega
  refine ⟨.inr ⟨b,o+off,cap,by rw [hlen],g1,by omega,fun j u hj=>?_⟩,fun n hn=>?_⟩
  .rw [Nat.add_assoc]
   apply g3
   rw [pE] at hj
   simp only [List.map_take,List.map_drop,List.getElem?_take] at hj
   split at hj
   .rwa [List.getElem?_drop] at hj
   .cases hj
  .cases eV hn
   exact ⟨l,B,rfl,hB,g2⟩
 unfold dR at h
 split at h
 .cases h
  simp only [den,aV] at hv
  subst hv
  exact ⟨.inl ⟨.nil,rfl⟩,fun n hn=>by cases hn⟩
 .rename_i l s off len cap
  split at h
  .rename_i k2 xs ty hB
   split at h
   case h_2=>cases h
   rename_i hk
   have hk:k=k2:=jG hk
   subst hk
   cases h
   obtain ⟨h1,h2⟩:=ho _ dB
   obtain ⟨cs,hc,b',iD,hh⟩:=hT.ok l _ hB
   cases hc
   refine aG l _ s off len cap xs rfl hB rfl (fun b o hβ=>?_) h1 h2 rfl
   rw [hβ] at iD;cases iD
   exact ⟨(Array.getElem?_eq_some_iff.1 hh).1,by simp [SB.aT,hβ],fun j u hj=>by rw [cell_of_row w _ (0+j) _ _ _ hh];simpa using hj⟩
  .rename_i k2 xs hB
   split at h
   case h_2=>cases h
   rename_i hk
   have hk:k=k2:=jG hk
   subst hk
   cases h
   obtain ⟨h1,h2⟩:=ho _ dB
   obtain ⟨cs,hc,b',o',iD,cL,hh⟩:=hT.ok l _ hB
   cases hc
   refine aG l _ s off len cap xs rfl hB rfl (fun b o hβ=>?_) h1 h2 rfl
   rw [hβ] at iD;cases iD
   exact ⟨cL.lt,by simp [SB.aT,hβ],hh⟩
  .rename_i cells ty hB
   split at h
   case h_2=>cases h
   rename_i xs hk
   cases h
   obtain ⟨h1,h2⟩:=ho _ dB
   obtain ⟨cs,hc,b',iD,hh⟩:=hT.ok l _ hB
   have e:some cs=some _:=hc.symm.trans (cQ hk)
   cases e
   refine aG l _ s off len cap xs rfl hB hc (fun b o hβ=>?_) h1 h2 rfl
   rw [hβ] at iD;cases iD
   exact ⟨(Array.getElem?_eq_some_iff.1 hh).1,by simp [SB.aT,hβ],fun j u hj=>by rw [cell_of_row w _ (0+j) _ _ _ hh];simpa using hj⟩
  .rename_i cells hB
   split at h
   case h_2=>cases h
   rename_i xs hk
   cases h
   obtain ⟨h1,h2⟩:=ho _ dB
   obtain ⟨cs,hc,b',o',iD,cL,hh⟩:=hT.ok l _ hB
   have e:some cs=some _:=hc.symm.trans (cQ hk)
   cases e
   refine aG l _ s off len cap xs rfl hB hc (fun b o hβ=>?_) h1 h2 rfl
   rw [hβ] at iD;cases iD
   exact ⟨cL.lt,by simp [SB.aT,hβ],hh⟩
  .cases h
 .rename_i l
  split at h
  case h_2=>cases h
  rename_i k2 xs ty hB
  split at h
  case h_2=>cases h
  rename_i hk
  have hk:k=k2:=jG hk
  subst hk
  cases h
  obtain ⟨cs,hc,u,hσ,bQ⟩:=hT.ok l _ hB
  cases hc
  simp only [den,hσ,aV] at hv
  subst hv
  refine ⟨?_,fun n hn=>⟨l,_,rfl,hB,by simp [SB.aT,hσ,eV hn]⟩⟩
  rcases bQ.1.2 with ⟨rfl,h0⟩ | ⟨gb,cap,cur,rfl,_,hh,hle,_,_,dK⟩
  .exact .inl ⟨.nil,List.eq_nil_of_length_eq_zero h0⟩
  .refine .inr ⟨gb,0,cap,rfl,(Array.getElem?_eq_some_iff.1 hh).1,hle,fun j u hj=>?_⟩
   rw [cell_of_row w gb _ _ _ _ hh]
   rw [<- dK,List.getElem?_take] at hj
   split at hj
   .simpa using hj
   .cases hj
 .rename_i l lo hi
  split at h
  case h_2=>cases h
  rename_i k2 xs ty hB
  split at h
  case h_2=>cases h
  rename_i hk
  have hk:k=k2:=jG hk
  subst hk
  cases h
  obtain ⟨h1,h2⟩:=ho _ dB
  obtain ⟨cs,hc,u,hσ,bQ⟩:=hT.ok l _ hB
  cases hc
  have hlen:((xs.drop lo).take (hi-lo)).length=hi-lo:=by simp;omega
  rcases bQ.1.2 with ⟨rfl,h0⟩ | ⟨gb,cap,cur,rfl,_,hh,hle,_,_,dK⟩
  .have:xs=[]:=List.eq_nil_of_length_eq_zero h0
   subst this
   have e0:lo=0/\hi=0:=by simp at h2;omega
   obtain ⟨rfl,rfl⟩:=e0
   simp only [den,hσ,aV] at hv
   subst hv
   exact ⟨.inl ⟨⟨none,by simp⟩,by simp⟩,fun n hn=>by cases eV hn⟩
  .simp only [den,hσ,aV] at hv
   by_cases qV:cap=lo
   .rw [if_pos qV] at hv
    subst hv
    refine ⟨.inr ⟨gb,0,cap-lo,by rw [hlen],(Array.getElem?_eq_some_iff.1 hh).1,by omega,fun j u hj=>?_⟩,fun n hn=>⟨l,_,rfl,hB,by simpa [SB.aT,hσ,Value.ownBlock] using eV hn⟩⟩
    have h0:hi-lo=0:=by omega
    rw [h0] at hj
    simp at hj
   .rw [if_neg qV,gQ,bJ] at hv
    subst hv
    refine ⟨.inr ⟨gb,0+lo,cap-lo,by rw [hlen],(Array.getElem?_eq_some_iff.1 hh).1,by omega,fun j u hj=>?_⟩,fun n hn=>⟨l,_,rfl,hB,by simpa [SB.aT,hσ,Value.ownBlock] using eV hn⟩⟩
    rw [cell_of_row w gb _ _ _ _ hh]
    have h5:(xs.map (Value.int k))[lo+j]?=some u:=by
     simp only [List.map_take,List.map_drop,List.getElem?_take] at hj
     split at hj
     .rwa [List.getElem?_drop] at hj
     .cases hj
    rw [<- dK,List.getElem?_take] at h5
    split at h5
    .simpa using h5
    .cases h5
 .rename_i l n0
  split at h
  case h_2=>cases h
  rename_i k2 xs hB
  split at h
  case h_2=>cases h
  rename_i hk
  have hk:k=k2:=jG hk
  subst hk
  cases h
  obtain ⟨cs,hc,u,hσ,bQ⟩:=hT.ok l _ hB
  cases hc
  simp only [den,gL] at hv
  obtain ⟨u',gD,hv⟩:=hv
  rw [hσ] at gD
  cases gD
  obtain ⟨rfl,_⟩:=jR hv
  refine ⟨?_,fun n hn=>⟨l,_,rfl,hB,by simp [SB.aT,hσ,hn]⟩⟩
  exact bQ
 .rename_i l off len lo
  split at h
  case h_2=>cases h
  rename_i sz cells ty hB
  split at h
  case h_2=>cases h
  rename_i xs fX hk
  cases h
  have fX:=cM fX
  subst fX
  obtain ⟨h1,h2⟩:=ho _ dB
  obtain ⟨cs,hc,b,cap,cur,hβ,hσ,hh,hle,nU,⟨n,hn,MV⟩,dK⟩:=hT.ok l _ hB
  have e:some cs=some _:=hc.symm.trans (cQ hk)
  cases e
  simp only [den,hβ,hσ,pM,mZ,gQ,aV] at hv
  subst hv
  have hlen:((xs.drop off).take len).length=len:=by simp;omega
  simp only [List.length_map,Nat.mul_one] at hn
  refine ⟨.inr ⟨b,0+off,cap-lo,by simp only [qZ,hlen],(Array.getElem?_eq_some_iff.1 hh).1,by omega,fun j u hj=>?_⟩,fun n hn=>⟨l,_,rfl,hB,by simpa [SB.aT,hβ,Value.ownBlock] using eV hn⟩⟩
  rw [cell_of_row w b _ _ _ _ hh]
  have h5:(xs.map (Value.int k))[off+j]?=some u:=by
   simp only [List.map_take,List.map_drop,List.getElem?_take] at hj
   split at hj
   .rwa [List.getElem?_drop] at hj
   .cases hj
  rw [<- dK,List.getElem?_take] at h5
  split at h5
  .simpa using h5
  .cases h5
 .cases h
theorem Ko {k:IntKind} {v:SV} {x:Value} {ob:List Prop} {ys:List Int} (hT:aD w0 M V T w) (hv:den V v=some x) (h:dR T k v=some (ob,ys)) (ho:∀ q∈ob,q) :
 vP w k x ys/\∀ n,gX x=some n->(∃ l B,Ju v=some l/\T l=some B/\B.aT V l=some n)\/(n<w0.heap.size/\¬ M n):=by
 obtain ⟨h1,h2⟩:=Wc hT hv h ho
 exact ⟨h1,fun n hn=>.inl (h2 n hn)⟩
def Ox:SB->Option (List SV)
 | .row sz cs _=>match Nat.beq sz 1 with
   | true=>some cs
   | false=>none
 | .own cs _=>some cs
 | .fL cs=>some cs
 | _=>none
def Ke (T:bB) (vw:Vw):Prop:=∀ l0 v cs,vw l0=some (.Yp v cs)->match v with
 | .aG l _ _ _ _=>∃ B,T l=some B/\Ox B=some cs
 | _=>True
mutual
def kN (vw:Vw) (T0:List (Nat × SB)) (T:bB):SV->SV->Option (List Prop)
 | .ptr l s o,.ptr l0 s' o'=>match vw l0 with
   | some (.lab l' off)=>match Nat.beq l l' with
     | true=>some (Mg s s' o (off+o'))
     | false=>none
   | _=>none
 | .aG l s o n c,.aG l0 s' o' n' c'=>match vw l0 with
   | some (.lab l' off)=>match Nat.beq l l' with
     | true=>some (Mg s s' o (off+o')++(Mg s s' n n'++Mg s s' c c'))
     | false=>none
   | _=>none
 | .buf l,.buf l0=>match vw l0 with
   | some (.lab l' 0)=>match Nat.beq l l' with
     | true=>some []
     | false=>none
   | _=>none
 | .dD l o n lo,.dD l0 o' n' lo'=>match vw l0 with
   | some (.lab l' 0)=>match Nat.beq l l'&&(Nat.beq o o'&&Nat.beq lo lo') with
     | true=>some (Mg false false n n')
     | false=>none
   | _=>none
 | v,.iA l0 n0=>match vw l0,look l0 T0 with
   | some (.val u),some (.iT k _)=>match fY u v,dR T k v with
     | some p,some (ob,xs)=>some (p++(ob++[n0=xs.length]))
     | _,_=>none
   | some (.val u),some (.qG _)=>match fY u v,Dp T v with
     | some p,some xs=>some (p++[n0=xs.length])
     | _,_=>none
   | _,_=>none
 | .rC t v,.rC t' v'=>match Nat.beq t t' with
   | true=>kN vw T0 T v v'
   | false=>none
 | .agg vs,.agg us=>zP vs us (rO vw T0 T vs us)
 | .eF vs,.eF us=>rO vw T0 T vs us
 | .fn (.func f) xs ys,.fn (.func g) us vs=>match Nat.beq f g with
   | true=>match rO vw T0 T xs us,rO vw T0 T ys vs with
     | some a,some b=>some (a++b)
     | _,_=>none
   | false=>none
 | v,u=>match fG v&&fG u with
   | true=>fY v u
   | false=>none
def rO (vw:Vw) (T0:List (Nat × SB)) (T:bB):List SV->List SV->Option (List Prop)
 | [],[]=>some []
 | v::r,u::t=>match kN vw T0 T v u,rO vw T0 T r t with
   | some a,some b=>some (a++b)
   | _,_=>none
 | _,_=>none
end
mutual
theorem Tm {vw:Vw} {T0:List (Nat × SB)} (rL:Ke T vw) (hT:aD w0 M V T w):∀ {u v:SV} {ps:List Prop},kN vw T0 T v u=some ps->(∀ q∈ps,q)->∀ x,den V v=some x->den (seen vw V) u=some x
 | .ptr l0 s' o',v,ps,h,hp,x,hx=>by
   cases v <;> simp only [kN,fG,Bool.and_false] at h <;> first | (cases h;done) | skip
   split at h
   .rename_i l' off hl
    split at h
    .rename_i hb
     have hb:=cM hb
     subst hb
     cases h
     have e:=jD hp
     subst e
     simp only [den,dC] at hx |-
     obtain ⟨p,hp,rfl⟩:=hx
     exact ⟨(p.1,p.2+off),by rw [(kO hl).1,hp];rfl,by simp only [Nat.add_assoc]⟩
    .cases h
   .cases h
 | .aG l0 s' o' n' c',v,ps,h,hp,x,hx=>by
   cases v <;> simp only [kN,fG,Bool.and_false] at h <;> first | (cases h;done) | skip
   split at h
   .rename_i l' off hl
    split at h
    .rename_i hb
     have hb:=cM hb
     subst hb
     cases h
     have e1:=jD (jA hp)
     have e2:=jD (jA (fR hp))
     have e3:=jD (fR (fR hp))
     subst e1 e2 e3
     simp only [den,dC] at hx |-
     obtain ⟨p,hp,rfl⟩:=hx
     exact ⟨(p.1,p.2+off),by rw [(kO hl).1,hp];rfl,by simp only [Nat.add_assoc]⟩
    .cases h
   .cases h
 | .buf l0,v,ps,h,hp,x,hx=>by
   cases v <;> simp only [kN,fG,Bool.and_false] at h <;> first | (cases h;done) | skip
   split at h
   .rename_i l' hl
    split at h
    .rename_i hb
     have hb:=cM hb
     subst hb
     simp only [den] at hx |-
     rw [(kO hl).2,hx]
    .cases h
   .cases h
 | .dD l0 o' n' lo',v,ps,h,hp,x,hx=>by
   cases v <;> simp only [kN,fG,Bool.and_false] at h <;> first | (cases h;done) | skip
   split at h
   .rename_i l' hl
    split at h
    .rename_i hb
     simp only [iG] at hb
     obtain ⟨b1,b2,b3⟩:=hb
     have b1:=cM b1
     have b2:=cM b2
     have b3:=cM b3
     subst b1 b2 b3
     cases h
     have e:=jD hp
     subst e
     simp only [den,dC,gL] at hx |-
     obtain ⟨p,hp,c,hc,rfl⟩:=hx
     refine ⟨p,by rw [(kO hl).1,hp];rfl,c,by rw [(kO hl).2];exact hc,rfl⟩
    .cases h
   .cases h
 | .iA l0 n0,v,ps,h,hp,x,hx=>by
   have key:(match vw l0,look l0 T0 with
    | some (.val u),some (.iT k _)=>match fY u v,dR T k v with
      | some p,some (ob,xs)=>some (p++(ob++[n0=xs.length]))
      | _,_=>none
    | some (.val u),some (.qG _)=>match fY u v,Dp T v with
      | some p,some xs=>some (p++[n0=xs.length])
      | _,_=>none
    | _,_=>none)=some ps:=by cases v <;> simpa only [kN] using h
   split at key
   case h_3=>cases key
   .rename_i u k ys hvw Zk
    split at key
    case h_2=>cases key
    rename_i p ob xs h1 h2
    cases key
    have hd:den V v=den V u:=jE h1 (jA hp)
    obtain ⟨hr,_⟩:=Ko hT hx h2 (jA (fR hp))
    have hn:n0=xs.length:=(fR (fR hp)) _ dB
    simp only [den,gL]
    exact ⟨x,by rw [uK hvw,<- hd,hx],by rw [hn];exact hr.iA⟩
   .rename_i u ys hvw Zk
    split at key
    case h_2=>cases key
    rename_i p xs h1 h2
    cases key
    have hd:den V v=den V u:=jE h1 (jA hp)
    obtain ⟨hr,_⟩:=Az hT hx h2
    have hn:n0=xs.length:=(fR hp) _ dB
    simp only [den,gL]
    exact ⟨x,by rw [uK hvw,<- hd,hx],by rw [hn];exact hr.iA⟩
 | .rC t' v',v,ps,h,hp,x,hx=>by
   cases v <;> simp only [kN,fG,Bool.and_false] at h <;> first | (cases h;done) | skip
   split at h
   .rename_i hb
    have hb:=cM hb
    subst hb
    simp only [den,dC] at hx |-
    obtain ⟨y,hy,rfl⟩:=hx
    exact ⟨y,Tm rL hT h hp y hy,rfl⟩
   .cases h
 | .agg us,v,ps,h,hp,x,hx=>by
   have pure:(fG v&&fG (.agg us))=true->fY v (.agg us)=some ps->den (seen vw V) (.agg us)=some x:=by
    intro Cj hr
    simp only [iG] at Cj
    rw [lX (V:=seen vw V) (V':=V) Cj.2,jE hr hp,hx]
   cases v with
   | agg vs=>
     simp only [kN] at h
     simp only [den,dC] at hx |-
     obtain ⟨y,hy,rfl⟩:=hx
     rcases tS h hp with e | e
     .exact ⟨y,(e V (seen vw V)).trans hy,rfl⟩
     .exact ⟨y,oG rL hT e hp y hy,rfl⟩
   | _=>
     simp only [kN] at h
     split at h
     .rename_i Cj;exact pure Cj h
     .cases h
 | .eF us,v,ps,h,hp,x,hx=>by
   have pure:(fG v&&fG (.eF us))=true->fY v (.eF us)=some ps->den (seen vw V) (.eF us)=some x:=by
    intro Cj hr
    simp only [iG] at Cj
    rw [lX (V:=seen vw V) (V':=V) Cj.2,jE hr hp,hx]
   cases v with
   | eF vs=>
     simp only [kN] at h
     simp only [den,dC] at hx |-
     obtain ⟨y,hy,rfl⟩:=hx
     exact ⟨y,oG rL hT h hp y hy,rfl⟩
   | _=>
     simp only [kN] at h
     split at h
     .rename_i Cj;exact pure Cj h
     .cases h
 | .fn g us vs,v,ps,h,hp,x,hx=>by
   cases v with
   | fn f xs ys=>
     cases f with
     | func f=>
       cases g with
       | func g=>
         simp only [kN] at h
         split at h
         .rename_i hf
          have hf:=cM hf
          subst hf
          split at h
          .rename_i a b ha hb
           cases h
           simp only [den,gL,dC] at hx |-
           obtain ⟨y,hy,z,hz,rfl⟩:=hx
           exact ⟨y,oG rL hT ha (jA hp) y hy,z,oG rL hT hb (fR hp) z hz,rfl⟩
          .cases h
         .cases h
       | _=>simp [kN,fG] at h
     | _=>simp [kN,fG] at h
   | _=>cases g <;> simp [kN,fG] at h
 | .int s k n,v,ps,h,hp,x,hx=>by
   have h2:(match fG v&&fG (.int s k n) with
    | true=>fY v (.int s k n)
    | false=>none)=some ps:=by cases v <;> simpa only [kN] using h
   split at h2
   .rename_i Cj
    simp only [iG] at Cj
    rw [lX (V:=seen vw V) (V':=V) Cj.2,jE h2 hp,hx]
   .cases h2
 | .bool s b,v,ps,h,hp,x,hx=>by
   have h2:(match fG v&&fG (.bool s b) with
    | true=>fY v (.bool s b)
    | false=>none)=some ps:=by cases v <;> simpa only [kN] using h
   split at h2
   .rename_i Cj
    simp only [iG] at Cj
    rw [lX (V:=seen vw V) (V':=V) Cj.2,jE h2 hp,hx]
   .cases h2
 | .raw y,v,ps,h,hp,x,hx=>by
   have h2:(match fG v&&fG (.raw y) with
    | true=>fY v (.raw y)
    | false=>none)=some ps:=by cases v <;> simpa only [kN] using h
   split at h2
   .rename_i Cj
    simp only [iG] at Cj
    rw [lX (V:=seen vw V) (V':=V) Cj.2,jE h2 hp,hx]
   .cases h2
 | .ai k ys,v,ps,h,hp,x,hx=>by
   have h2:(match fG v&&fG (.ai k ys) with
    | true=>fY v (.ai k ys)
    | false=>none)=some ps:=by cases v <;> simpa only [kN] using h
   split at h2
   .rename_i Cj
    simp only [iG] at Cj
    rw [lX (V:=seen vw V) (V':=V) Cj.2,jE h2 hp,hx]
   .cases h2
 | .iS ..,v,ps,h,hp,x,hx=>by cases v <;> simp [kN,fG] at h
 | .Qr ..,v,ps,h,hp,x,hx=>by cases v <;> simp [kN,fG] at h
 | .lS ..,v,ps,h,hp,x,hx=>by cases v <;> simp [kN,fG] at h
theorem oG {vw:Vw} {T0:List (Nat × SB)} (rL:Ke T vw) (hT:aD w0 M V T w):∀ {us vs:List SV} {ps:List Prop},rO vw T0 T vs us=some ps->(∀ q∈ps,q)->∀ xs,aI V vs=some xs->aI (seen vw V) us=some xs
 | [],vs,ps,h,hp,xs,hx=>by
   cases vs with
   | nil=>exact hx
   | cons=>simp [rO] at h
 | u::t,vs,ps,h,hp,xs,hx=>by
   cases vs with
   | nil=>simp [rO] at h
   | cons v r=>
     simp only [rO] at h
     split at h
     .rename_i a b ha hb
      cases h
      simp only [aI,gL,dC] at hx |-
      obtain ⟨y,hy,ys,pE,rfl⟩:=hx
      exact ⟨y,Tm rL hT ha (jA hp) y hy,ys,oG rL hT hb (fR hp) ys pE,rfl⟩
     .cases h
end
def eO (vw:Vw) (T0:List (Nat × SB)) (T:bB):SB->SB->Option (List Prop)
 | _,.gone=>some []
 | .own cs t,.own ds t'=>match Nat.beq t t' with
   | true=>zP cs ds (rO vw T0 T cs ds)
   | false=>none
 | .own cs t,.ints k xs t'=>match cR k cs with
   | some ns=>some [ns=xs/\t=t']
   | none=>none
 | .ints k xs t,.ints k' ys t'=>match pJ k k' with
   | true=>some [xs=ys/\t=t']
   | false=>none
 | .ints k xs t,.own ds t'=>match cR k ds with
   | some ns=>some [xs=ns/\t=t']
   | none=>none
 | .own cs _,.fL ds=>zP cs ds (rO vw T0 T cs ds)
 | .ints k xs _,.fL ds=>(cR k ds).map fun ns=>[xs=ns]
 | .own cs _,.nA k xs=>(cR k cs).map fun ns=>[ns=xs]
 | .ints k xs _,.nA k' ys=>match pJ k k' with
   | true=>some [xs=ys]
   | false=>none
 | .row sz cs t,.row Za ds t'=>match Nat.beq sz Za&&Nat.beq t t' with
   | true=>zP cs ds (rO vw T0 T cs ds)
   | false=>none
 | .fL cs,.fL ds=>zP cs ds (rO vw T0 T cs ds)
 | .fL cs,.nA k xs=>(cR k cs).map fun ns=>[ns=xs]
 | .nA k xs,.nA k' ys=>match pJ k k' with
   | true=>some [xs=ys]
   | false=>none
 | .fM sz n t,.fM Za n' t'=>match Nat.beq sz Za&&Nat.beq t t' with
   | true=>some (Mg false false n n')
   | false=>none
 | .dL k xs t,.dL k' ys t'=>match Nat.beq t t'&&pJ k k' with
   | true=>some [xs=ys]
   | false=>none
 | .eH xs t,.eH ys t'=>match Nat.beq t t' with
   | true=>some [xs=ys]
   | false=>none
 | .eI vs t,.eI us t'=>match Nat.beq t t' with
   | true=>some [vs=us]
   | false=>none
 | .own cs t,.eI us t'=>match Nat.beq t t' with
   | true=>some [∀ V:bA,aI V cs=some us]
   | false=>none
 | _,_=>none
theorem IF {vw:Vw} {T0:List (Nat × SB)} (rL:Ke T vw) (hT:aD w0 M V T w) {l l0:Nat} {B C:SB} {ps:List Prop} (hl:vw l0=some (.lab l 0)) (hB:T l=some B) (h:eO vw T0 T B C=some ps) (hp:∀ q∈ps,q) :
 okB (seen vw V) w l0 C/\(∀ n,C.aT (seen vw V) l0=some n->B.aT V l=some n)/\(C.owned=true->B.owned=true):=by
 have eβ:(seen vw V).β l0=V.β l:=by rw [(kO hl).1];simp
 have eσ:(seen vw V).σ l0=V.σ l:=(kO hl).2
 obtain ⟨cs,hc,h2⟩:=hT.ok l B hB
 have OU:∀ {xs ds:List SV},zP xs ds (rO vw T0 T xs ds)=some ps->aI V xs=some cs->aI (seen vw V) ds=some cs:=by
  intro xs ds h hx
  rcases tS h hp with e | e
  .exact (e V (seen vw V)).trans hx
  .exact oG rL hT e hp _ hx
 cases C with
 | gone=>exact ⟨⟨[],rfl,trivial⟩,(fun n hn=>by cases hn),fun h=>by cases h⟩
 | own ds t'=>
   cases B with
   | own es t=>
     simp only [eO] at h
     split at h
     case h_2=>cases h
     rename_i ht
     have ht:=cM ht
     subst ht
     obtain ⟨b,hb,hh⟩:=h2
     exact ⟨⟨cs,OU h hc,b,eβ.trans hb,hh⟩,fun n hn=>by simpa [SB.aT,eβ] using hn,fun _=>rfl⟩
   | ints k xs t=>
     simp only [eO] at h
     split at h
     case h_2=>cases h
     rename_i hk
     cases h
     obtain ⟨e,ht⟩:=hp _ dB
     subst e ht
     cases hc
     obtain ⟨b,hb,hh⟩:=h2
     exact ⟨⟨_,cQ hk,b,eβ.trans hb,hh⟩,fun n hn=>by simpa [SB.aT,eβ] using hn,fun _=>rfl⟩
   | _=>simp [eO] at h
 | ints k xs t'=>
   cases B with
   | own es t=>
     simp only [eO] at h
     split at h
     case h_2=>cases h
     rename_i hk
     cases h
     obtain ⟨e,ht⟩:=hp _ dB
     subst e ht
     have e2:some cs=some _:=hc.symm.trans (cQ hk)
     cases e2
     obtain ⟨b,hb,hh⟩:=h2
     exact ⟨⟨_,rfl,b,eβ.trans hb,hh⟩,fun n hn=>by simpa [SB.aT,eβ] using hn,fun _=>rfl⟩
   | ints k2 ys t=>
     simp only [eO] at h
     split at h
     case h_2=>cases h
     rename_i ht
     cases h
     obtain ⟨e,h3⟩:=hp _ dB
     have h4:_=_:=jG ht
     subst e h3 h4
     obtain ⟨b,hb,hh⟩:=h2
     exact ⟨⟨cs,hc,b,eβ.trans hb,hh⟩,fun n hn=>by simpa [SB.aT,eβ] using hn,fun _=>rfl⟩
   | _=>simp [eO] at h
 | fL ds=>
   cases B with
   | own es t=>
     simp only [eO] at h
     obtain ⟨b,hb,hh⟩:=h2
     exact ⟨⟨cs,OU h hc,b,0,eβ.trans hb,.of hh,fun j u hj=>by rw [cell_of_row w _ (0+j) _ _ _ hh];simpa using hj⟩,fun n hn=>by simpa [SB.aT,eβ] using hn,fun h=>by cases h⟩
   | ints k2 ys t=>
     simp only [eO,dC] at h
     obtain ⟨ns,hk,rfl⟩:=h
     have e:=hp _ dB
     subst e
     cases hc
     obtain ⟨b,hb,hh⟩:=h2
     exact ⟨⟨_,cQ hk,b,0,eβ.trans hb,.of hh,fun j u hj=>by rw [cell_of_row w _ (0+j) _ _ _ hh];simpa using hj⟩,fun n hn=>by simpa [SB.aT,eβ] using hn,fun h=>by cases h⟩
   | fL es=>
     simp only [eO] at h
     obtain ⟨b,o,hb,hh⟩:=h2
     exact ⟨⟨cs,OU h hc,b,o,eβ.trans hb,hh⟩,fun n hn=>by simpa [SB.aT,eβ] using hn,fun h=>by cases h⟩
   | _=>simp [eO] at h
 | nA k xs=>
   cases B with
   | own es t=>
     simp only [eO,dC] at h
     obtain ⟨ns,hk,rfl⟩:=h
     have e:=hp _ dB
     subst e
     have e2:some cs=some _:=hc.symm.trans (cQ hk)
     cases e2
     obtain ⟨b,hb,hh⟩:=h2
     exact ⟨⟨_,rfl,b,0,eβ.trans hb,.of hh,fun j u hj=>by rw [cell_of_row w _ (0+j) _ _ _ hh];simpa using hj⟩,fun n hn=>by simpa [SB.aT,eβ] using hn,fun h=>by cases h⟩
   | ints k2 ys t=>
     simp only [eO] at h
     split at h
     case h_2=>cases h
     rename_i ht
     cases h
     have e:=hp _ dB
     have h4:_=_:=jG ht
     subst e h4
     cases hc
     obtain ⟨b,hb,hh⟩:=h2
     exact ⟨⟨_,rfl,b,0,eβ.trans hb,.of hh,fun j u hj=>by rw [cell_of_row w _ (0+j) _ _ _ hh];simpa using hj⟩,fun n hn=>by simpa [SB.aT,eβ] using hn,fun h=>by cases h⟩
   | fL es=>
     simp only [eO,dC] at h
     obtain ⟨ns,hk,rfl⟩:=h
     have e:=hp _ dB
     subst e
     have e2:some cs=some _:=hc.symm.trans (cQ hk)
     cases e2
     obtain ⟨b,o,hb,hh⟩:=h2
     exact ⟨⟨_,rfl,b,o,eβ.trans hb,hh⟩,fun n hn=>by simpa [SB.aT,eβ] using hn,fun h=>by cases h⟩
   | nA k2 ys=>
     simp only [eO] at h
     split at h
     case h_2=>cases h
     rename_i ht
     cases h
     have e:=hp _ dB
     have h4:_=_:=jG ht
     subst e h4
     obtain ⟨b,o,hb,hh⟩:=h2
     exact ⟨⟨cs,hc,b,o,eβ.trans hb,hh⟩,fun n hn=>by simpa [SB.aT,eβ] using hn,fun h=>by cases h⟩
   | _=>simp [eO] at h
 | fM z m t'=>
   cases B with
   | fM z2 m2 t=>
     simp only [eO] at h
     split at h
     case h_2=>cases h
     rename_i ht
     simp only [iG] at ht
     cases h
     have h3:=cM ht.1
     have h4:=cM ht.2
     have e:=jD hp
     subst h3 h4 e
     obtain ⟨v,us,hv,hh⟩:=h2
     exact ⟨⟨cs,hc,v,us,eσ.trans hv,hh⟩,fun n hn=>by simpa [SB.aT,eσ] using hn,fun _=>rfl⟩
   | _=>simp [eO] at h
 | dL k xs t'=>
   cases B with
   | dL k2 ys t=>
     simp only [eO] at h
     split at h
     case h_2=>cases h
     rename_i ht
     simp only [iG] at ht
     cases h
     have e:=hp _ dB
     have h3:=cM ht.1
     have h4:_=_:=jG ht.2
     subst e h3 h4
     obtain ⟨v,hv,hh⟩:=h2
     exact ⟨⟨cs,hc,v,eσ.trans hv,hh⟩,fun n hn=>by simpa [SB.aT,eσ] using hn,fun _=>rfl⟩
   | _=>simp [eO] at h
 | eH xs t'=>
   cases B with
   | eH ys t=>
     simp only [eO] at h
     split at h
     case h_2=>cases h
     rename_i ht
     cases h
     have e:=hp _ dB
     have h3:=cM ht
     subst e h3
     obtain ⟨v,hv,hh⟩:=h2
     exact ⟨⟨cs,hc,v,eσ.trans hv,hh⟩,fun n hn=>by simpa [SB.aT,eσ] using hn,fun _=>rfl⟩
   | _=>simp [eO] at h
 | eI us t'=>
   cases B with
   | own es t=>
     simp only [eO] at h
     split at h
     case h_2=>cases h
     rename_i ht
     cases h
     have e:=hp _ dB
     have h3:=cM ht
     subst h3
     have:some cs=some us:=hc.symm.trans (e V)
     cases this
     obtain ⟨b,hb,hh⟩:=h2
     exact ⟨⟨_,rfl,b,eβ.trans hb,hh⟩,fun n hn=>by simpa [SB.aT,eβ] using hn,fun _=>rfl⟩
   | eI vs t=>
     simp only [eO] at h
     split at h
     case h_2=>cases h
     rename_i ht
     cases h
     have e:=hp _ dB
     have h3:=cM ht
     subst e h3
     obtain ⟨b,hb,hh⟩:=h2
     exact ⟨⟨cs,hc,b,eβ.trans hb,hh⟩,fun n hn=>by simpa [SB.aT,eβ] using hn,fun _=>rfl⟩
   | _=>simp [eO] at h
 | row z ds t'=>
   cases B with
   | row z2 es t=>
     simp only [eO] at h
     split at h
     case h_2=>cases h
     rename_i ht
     simp only [iG] at ht
     have h3:=cM ht.1
     have h4:=cM ht.2
     subst h3 h4
     obtain ⟨b,cap,cur,hb,hσ,hh⟩:=h2
     exact ⟨⟨cs,OU h hc,b,cap,cur,eβ.trans hb,eσ.trans hσ,hh⟩,fun n hn=>by simpa [SB.aT,eβ] using hn,fun _=>rfl⟩
   | _=>simp [eO] at h
 | iT k xs=>cases B <;> simp [eO] at h
 | qG xs=>cases B <;> simp [eO] at h
def AO (vw:Vw) (T0:List (Nat × SB)) (T:bB) (l0:Nat) (B0:SB):Option (List Prop):=match B0 with
 | .iT k ys=>match vw l0 with
   | some (.val u)=>match dR T k u with
     | some (ob,xs)=>some ((xs=ys)::ob)
     | none=>none
   | _=>none
 | .qG ys=>match vw l0 with
   | some (.val u)=>match Dp T u with
     | some xs=>some [xs=ys]
     | none=>none
   | _=>none
 | B0=>match vw l0 with
   | some (.lab l 0)=>match T l with
     | some B=>eO vw T0 T B B0
     | none=>none
   | _=>none
def mW (vw:Vw) (l0:Nat):Option Nat:=match vw l0 with
 | some (.lab l _)=>some l
 | some (.val u)=>Ju u
 | some (.Yp ..)=>none
 | none=>none
theorem WO {vw:Vw} {T0:List (Nat × SB)} (rL:Ke T vw) (hT:aD w0 M V T w) {l0:Nat} {C:SB} {ps:List Prop} (h:AO vw T0 T l0 C=some ps) (hp:∀ q∈ps,q) (hv:∀ u,vw l0=some (.val u)->∃ x,den V u=some x) :
 okB (seen vw V) w l0 C/\(∀ n,C.aT (seen vw V) l0=some n->(∃ l B,mW vw l0=some l/\T l=some B/\B.aT V l=some n)\/(n<w0.heap.size/\¬ M n))/\(C.owned=true->∃ l B,vw l0=some (.lab l 0)/\T l=some B/\B.owned=true/\∀ n,C.aT (seen vw V) l0=some n->B.aT V l=some n):=by
 have rest:(match vw l0 with
  | some (.lab l 0)=>match T l with
    | some B=>eO vw T0 T B C
    | none=>none
  | _=>none)=some ps->okB (seen vw V) w l0 C/\(∀ n,C.aT (seen vw V) l0=some n->(∃ l B,mW vw l0=some l/\T l=some B/\B.aT V l=some n)\/(n<w0.heap.size/\¬ M n))/\(C.owned=true->∃ l B,vw l0=some (.lab l 0)/\T l=some B/\B.owned=true/\∀ n,C.aT (seen vw V) l0=some n->B.aT V l=some n):=by
  intro h
  split at h
  case h_2=>cases h
  rename_i l hl
  split at h
  case h_2=>cases h
  rename_i B hB
  obtain ⟨r1,r2,r3⟩:=IF rL hT hl hB h hp
  exact ⟨r1,fun n hn=>.inl ⟨l,B,by simp [mW,hl],hB,r2 n hn⟩,fun ho=>⟨l,B,hl,hB,r3 ho,r2⟩⟩
 cases C with
 | iT k ys=>
   simp only [AO] at h
   split at h
   case h_2=>cases h
   rename_i u hu
   split at h
   case h_2=>cases h
   rename_i ob xs hs
   cases h
   have e:xs=ys:=hp _ dB
   subst e
   obtain ⟨x,hx⟩:=hv u hu
   obtain ⟨h1,h2⟩:=Ko hT hx hs (fun q hq=>hp q (eK _ hq))
   have hσ:(seen vw V).σ l0=some x:=(uK hu).trans hx
   refine ⟨⟨_,rfl,x,hσ,h1⟩,fun n hn=>?_,fun h=>by cases h⟩
   simp only [SB.aT,hσ,mZ] at hn
   rcases h2 n hn with ⟨l,B,g1,g2,g3⟩ | g
   .exact .inl ⟨l,B,by simp [mW,hu,g1],g2,g3⟩
   .exact .inr g
 | qG ys=>
   simp only [AO] at h
   split at h
   case h_2=>cases h
   rename_i u hu
   split at h
   case h_2=>cases h
   rename_i xs hs
   cases h
   have e:xs=ys:=hp _ dB
   subst e
   obtain ⟨x,hx⟩:=hv u hu
   obtain ⟨h1,h2⟩:=Az hT hx hs
   have hσ:(seen vw V).σ l0=some x:=(uK hu).trans hx
   refine ⟨⟨_,rfl,x,hσ,h1⟩,fun n hn=>?_,fun h=>by cases h⟩
   simp only [SB.aT,hσ,mZ] at hn
   obtain ⟨l,B,g1,g2,g3⟩:=h2 n hn
   exact .inl ⟨l,B,by simp [mW,hu,g1],g2,g3⟩
 | eH=>exact rest h
 | own=>exact rest h
 | ints=>exact rest h
 | fL=>exact rest h
 | nA=>exact rest h
 | dL=>exact rest h
 | fM=>exact rest h
 | row=>exact rest h
 | eI=>exact rest h
 | gone=>exact rest h
def PQ (vw:Vw) (T0:List (Nat × SB)) (T:bB):List (Nat × SB)->Option (List Prop)
 | []=>some []
 | (l0,B0)::r=>match AO vw T0 T l0 B0,PQ vw T0 T r with
   | some a,some b=>some (a++b)
   | _,_=>none
theorem Tn {vw:Vw} {T0:List (Nat × SB)}:∀ {r:List (Nat × SB)} {ps:List Prop},PQ vw T0 T r=some ps->(∀ q∈ps,q)->∀ l0 B0,look l0 r=some B0->∃ NK,AO vw T0 T l0 B0=some NK/\∀ q∈NK,q
 | [],_,_,_,l0,B0,hl=>by cases hl
 | (k,C)::r,ps,h,hp,l0,B0,hl=>by
   simp only [PQ] at h
   split at h
   case h_2=>cases h
   rename_i a b ha hb
   cases h
   by_cases e:k=l0
   .subst e;rw [aK] at hl;cases hl;exact ⟨a,ha,jA hp⟩
   .rw [aH e] at hl;exact Tn hb (fR hp) l0 B0 hl
def aBg:Option Nat->Option Nat->Bool
 | some a,some b=>Nat.beq a b
 | _,_=>false
def aIn (vw:Vw) (T0:List (Nat × SB)):Bool:=T0.all fun p=>match p.2.owned with
 | false=>true
 | true=>T0.all fun q=>Nat.beq p.1 q.1 || !aBg (mW vw p.1) (mW vw q.1)
inductive Ga where
 | lab (l off:Nat)
 | arg (i:Nat)
 | sub (i j:Nat)
 | cell (l i:Nat)
 | Yp (i:Nat)
def Dn (vs:List SV) (T:bB):Ga->Option Src
 | .Yp i=>match vs[i]? with
   | some (.aG l s o n c)=>match T l with
     | some B=>(Ox B).map (.Yp (.aG l s o n c))
     | none=>none
   | _=>none
 | .cell l i=>match T l with
   | some (.own cs _)=>(cs[i]?).map .val
   | some (.fL cs)=>(cs[i]?).map .val
   | some (.row _ cs _)=>(cs[i]?).map .val
   | _=>none
 | .lab l off=>some (.lab l off)
 | .arg i=>(vs[i]?).map .val
 | .sub i j=>match vs[i]? with
   | some (.agg us)=>(us[j]?).map .val
   | _=>none
def zD (vs:List SV) (T:bB):List (Nat × Ga)->Option (List (Nat × Src))
 | []=>some []
 | (l0,q)::r=>match Dn vs T q,zD vs T r with
   | some s,some t=>some ((l0,s)::t)
   | _,_=>none
theorem Km (hT:aD w0 M V T w) {vs:List SV} {xs:List Value} (hx:aI V vs=some xs):∀ {vl:List (Nat × Ga)} {sl:List (Nat × Src)},zD vs T vl=some sl->∀ l0 u,look l0 sl=some (.val u)->∃ x,den V u=some x
 | [],sl,h,l0,u,hl=>by simp only [zD,aV] at h;subst h;cases hl
 | (k,q)::r,sl,h,l0,u,hl=>by
   simp only [zD] at h
   split at h
   case h_2=>cases h
   rename_i s t hs ht
   cases h
   by_cases e:k=l0
   .subst e
    rw [aK] at hl
    cases hl
    cases q with
    | lab l off=>cases hs
    | Yp i=>
      simp only [Dn] at hs
      split at hs
      .split at hs
       .simp at hs
       .cases hs
      .cases hs
    | cell l i=>
      simp only [Dn] at hs
      split at hs
      .rename_i cs ty hB
       simp only [dC] at hs
       obtain ⟨v,hv,e⟩:=hs
       cases e
       obtain ⟨ys,hy,_⟩:=hT.ok l _ hB
       obtain ⟨x,_,h3⟩:=dO hy i u hv
       exact ⟨x,h3⟩
      .rename_i cs hB
       simp only [dC] at hs
       obtain ⟨v,hv,e⟩:=hs
       cases e
       obtain ⟨ys,hy,_⟩:=hT.ok l _ hB
       obtain ⟨x,_,h3⟩:=dO hy i u hv
       exact ⟨x,h3⟩
      .rename_i sz cs ty hB
       simp only [dC] at hs
       obtain ⟨v,hv,e⟩:=hs
       cases e
       obtain ⟨ys,hy,_⟩:=hT.ok l _ hB
       obtain ⟨x,_,h3⟩:=dO hy i u hv
       exact ⟨x,h3⟩
      .cases hs
    | arg i=>
      simp only [Dn,dC] at hs
      obtain ⟨v,hv,e⟩:=hs
      cases e
      obtain ⟨x,_,h2⟩:=dO hx i u hv
      exact ⟨x,h2⟩
    | sub i j=>
      simp only [Dn] at hs
      split at hs
      case h_2=>cases hs
      rename_i us hv
      simp only [dC] at hs
      obtain ⟨v,hv2,e⟩:=hs
      cases e
      obtain ⟨x,_,h2⟩:=dO hx i _ hv
      simp only [den,dC] at h2
      obtain ⟨ys,hy,_⟩:=h2
      obtain ⟨x,_,h3⟩:=dO hy j u hv2
      exact ⟨x,h3⟩
   .rw [aH e] at hl
    exact Km hT hx ht l0 u hl
theorem Kl {vs:List SV} {T:bB}:∀ {vl:List (Nat × Ga)} {sl:List (Nat × Src)},zD vs T vl=some sl->∀ l0 v cs,look l0 sl=some (.Yp v cs)->match v with
  | .aG l _ _ _ _=>∃ B,T l=some B/\Ox B=some cs
  | _=>True
 | [],sl,h,l0,v,cs,hl=>by simp only [zD,aV] at h;subst h;cases hl
 | (k,q)::r,sl,h,l0,v,cs,hl=>by
   simp only [zD] at h
   split at h
   case h_2=>cases h
   rename_i s t hs ht
   cases h
   by_cases e:k=l0
   .subst e
    rw [aK] at hl
    cases hl
    cases q <;> simp only [Dn] at hs
    .cases hs
    .simp at hs
    .split at hs
     .simp at hs
     .cases hs
    .split at hs <;> first | (cases hs;done) | (simp at hs;done)
    .split at hs
     .split at hs
      .rename_i B hB
       simp only [dC] at hs
       obtain ⟨cs',h1,h2⟩:=hs
       cases h2
       exact ⟨B,hB,h1⟩
      .cases hs
     .cases hs
   .rw [aH e] at hl
    exact Kl ht l0 v cs hl
structure Canon where
 eN:List SV
 T0:List (Nat × SB)
 vl:List (Nat × Ga)
 e0:bK
 conds:List Prop:=[]
def nV (gl:List (Nat × Nat)) (sl:List (Nat × Src)):Vw:=fun l0=>match look l0 sl with
 | some q=>some q
 | none=>match gl.any fun p=>Nat.beq p.2 l0 with
   | true=>some (.lab l0 0)
   | false=>none
def Tz (gl:List (Nat × Nat)) (F0:Nat) (c:Canon) (vw:Vw):Bool:=
 aIn vw c.T0&&(c.vl.all (fun p=>Nat.blt p.1 F0 && !gl.any fun q=>Nat.beq q.2 p.1)&&(gl.all (fun q=>Nat.blt q.2 F0) &&
  (c.T0.all (fun p=>match p.2.owned with
   | false=>true
   | true=>Nat.blt p.1 F0&&ZO (look p.1 c.e0.wr))&&(Nat.ble c.e0.new.length 8&&c.e0.wr.all fun p=>Nat.blt p.1 F0))))
def aL (gl:List (Nat × Nat)) (F0:Nat) (dec:List SV->bB->Option Canon):Sum:=fun vs T lab _=>
 match dec vs T with
 | none=>none
 | some c=>match zD vs T c.vl with
   | none=>none
   | some sl=>match rO (nV gl sl) c.T0 T vs c.eN,PQ (nV gl sl) c.T0 T c.T0,Rx (sS (nV gl sl) F0 lab) c.e0,Tz gl F0 c (nV gl sl) with
     | some p,some q,some e,true=>some { bO:=c.conds++(p++q),val:=e.val,new:=e.new,wr:=e.wr }
     | _,_,_,_=>none
theorem uQ {α:Type} {f:Nat × α->Bool} {l:Nat} {v:α} {r:List (Nat × α)} (h:r.all f=true) (hl:look l r=some v):f (l,v)=true:=List.all_eq_true.1 h _ (fT hl)
theorem Bg {vs:List SV} {T:bB}:∀ {vl:List (Nat × Ga)} {sl:List (Nat × Src)},zD vs T vl=some sl->∀ l0 s,look l0 sl=some s->∃ q,(l0,q)∈vl
 | [],sl,h,l0,s,hl=>by simp only [zD,aV] at h;subst h;cases hl
 | (k,q)::r,sl,h,l0,s,hl=>by
   simp only [zD] at h
   split at h
   case h_2=>cases h
   rename_i s' t hs ht
   cases h
   by_cases e:k=l0
   .subst e;exact ⟨q,dB⟩
   .rw [aH e] at hl
    obtain ⟨q,hq⟩:=Bg ht l0 s hl
    exact ⟨q,eK _ hq⟩
theorem TY {a b:Option Nat} {n:Nat} (h:aBg a b=false) (ha:a=some n):b≠some n:=by
 subst ha
 intro hb
 subst hb
 simp [aBg] at h
theorem aU {P:Program} {Γ:Env} {f:FuncId} {gl:List (Nat × Nat)} {F0:Nat} {dec:List SV->bB->Option Canon} (Ur:Γ.aR=gl)
 (h:∀ vs T c,dec vs T=some c->(∀ q∈c.conds,q)->aE P Γ f c.eN (fun l=>look l c.T0) F0 F0 c.e0):aF P Γ f (aL gl F0 dec):=by
 refine aF.GX fun vs T lab F e he ho=>?_
 unfold aL at he
 split at he
 case h_1=>cases he
 rename_i c hc
 split at he
 case h_1=>cases he
 rename_i sl Mc
 split at he
 case h_2=>cases he
 rename_i p q e1 hp hq hb jT
 cases he
 have Ck:=jA ho
 have hpp:=jA (fR ho)
 have hqq:=fR (fR ho)
 unfold Tz at jT
 simp only [iG] at jT
 obtain ⟨k1,k2,k3,k4,k5,k6⟩:=jT
 have nF:∀ l0 s,nV gl sl l0=some s->l0<F0:=by
  intro l0 s hs
  unfold nV at hs
  split at hs
  .rename_i q0 Zk
   obtain ⟨q1,hm⟩:=Bg Mc l0 _ Zk
   have:=List.all_eq_true.1 k2 _ hm
   simp only [iG] at this
   simpa [Nat.blt_eq] using this.1
  .split at hs
   .rename_i aKk
    simp only [List.any_eq_true] at aKk
    obtain ⟨p,hm,he⟩:=aKk
    have:=List.all_eq_true.1 k3 p hm
    have he:=cM he
    rw [<- he]
    simpa [Nat.blt_eq] using this
   .cases hs
 have key:aE P Γ f vs T lab F e1:=by
  refine LY (vw:=nV gl sl) (h vs T c hc Ck) (fun l0 hl=>?_) (fun n l hl=>?_) (fun w0 M V w xs hT hx=>?_) (fun l0 B0 hl ho=>?_) (kJ k5) (fun l0 B0 hl=>?_) hb
  .cases hv:nV gl sl l0 with
   | none=>rfl
   | some s=>have:=nF l0 s hv;omega
  .rw [Ur] at hl
   have hm:=fT hl
   unfold nV
   split
   .rename_i q0 Zk
    obtain ⟨q1,hm1⟩:=Bg Mc l _ Zk
    have:=List.all_eq_true.1 k2 _ hm1
    simp only [iG,Bool.not_eq_true'] at this
    have h2:=this.2
    exfalso
    have:(gl.any fun q=>Nat.beq q.2 l)=true:=List.any_eq_true.2 ⟨_,hm,Nat.beq_refl l⟩
    rw [h2] at this
    cases this
   .have:(gl.any fun p=>Nat.beq p.2 l)=true:=List.any_eq_true.2 ⟨_,hm,Nat.beq_refl l⟩
    rw [this]
  .have Vi:∀ l0 u,nV gl sl l0=some (.val u)->∃ x,den V u=some x:=by
    intro l0 u hu
    unfold nV at hu
    split at hu
    .rename_i q0 Zk;cases hu;exact Km hT hx Mc l0 u Zk
    .split at hu
     .cases hu
     .cases hu
   have rL:Ke T (nV gl sl):=by
    intro l0 v cs hv
    unfold nV at hv
    split at hv
    .rename_i q0 Zk
     cases hv
     exact Kl Mc l0 v cs Zk
    .split at hv
     .cases hv
     .cases hv
   have at0:∀ l0 B0,look l0 c.T0=some B0->okB (seen (nV gl sl) V) w l0 B0/\(∀ n,B0.aT (seen (nV gl sl) V) l0=some n->(∃ l B,mW (nV gl sl) l0=some l/\T l=some B/\B.aT V l=some n)\/(n<w0.heap.size/\¬ M n))/\(B0.owned=true->∃ l B,nV gl sl l0=some (.lab l 0)/\T l=some B/\B.owned=true/\∀ n,B0.aT (seen (nV gl sl) V) l0=some n->B.aT V l=some n):=by
    intro l0 B0 hl
    obtain ⟨NK,h1,h2⟩:=Tn hq hqq l0 B0 hl
    exact WO rL hT h1 h2 (Vi l0)
   refine ⟨fun ys hy=>oG rL hT hp hpp ys hy,fun l0 B0 hl=>(at0 l0 B0 hl).1,fun l0 B0 l1 B1 n dJ hl MW ho hn Up=>?_,fun l0 B0 n hl ho hn=>?_⟩
   .obtain ⟨la,Ba,c1,a2,c3,Ie⟩:=(at0 l0 B0 hl).2.2 ho
    have a3:=Ie n hn
    have a1:mW (nV gl sl) l0=some la:=by simp [mW,c1]
    rcases (at0 l1 B1 MW).2.1 n Up with ⟨lb,Bb,b1,b2,b3⟩ | hfz
    .have hd:=uQ k1 hl
     simp only [ho] at hd
     have MY:=uQ hd MW
     simp only [Bool.or_eq_true,Bool.not_eq_true'] at MY
     rcases MY with MY | MY
     .exact dJ (cM MY)
     .have aTg:la≠lb:=fun e=>TY MY a1 (by rw [b1,e])
      exact hT.jI la Ba lb Bb n aTg a2 b2 c3 a3 b3
    .rcases hT.perm la Ba n a2 c3 a3 with MX | hm
     .have:=hfz.1;omega
     .exact hfz.2 hm
   .obtain ⟨la,Ba,c1,a2,c3,Ie⟩:=(at0 l0 B0 hl).2.2 ho
    exact ⟨la,Ba,c1,a2,c3,Ie n hn⟩
  .have:=uQ k4 hl
   simp only [ho,iG] at this
   refine ⟨by simpa [Nat.blt_eq] using this.1,fun hn=>?_⟩
   rw [hn] at this
   cases this.2
  .have:=uQ k6 hl
   simpa [Nat.blt_eq] using this
 exact key
end
noncomputable def Uz (t:Nat) (k:IntKind) (ty:TypeId) (s:St):Option St:=match s.g.get t with
 | some (.raw (.slice none 0 0))=>match Tr.put (.buf s.nx) 64 s.g t,Tr.put (SB.dL k [] ty) 64 s.tb s.nx with
   | some g,some tb=>some { s with g:=g,tb:=tb,nx:=s.nx+1 }
   | _,_=>none
 | _=>none
noncomputable def nL:List (Nat × IntKind × TypeId)->St->Option St
 | [],s=>some s
 | (t,k,ty)::r,s=>match Uz t k ty s with
   | some s=>nL r s
   | none=>none
section
variable {P:Program} {Γ:Env} {w0:World} {M:Nat->Prop} {B:bB} {N F0:Nat} {V0:bA}
theorem Inv.Uz {t:Nat} {k:IntKind} {ty:TypeId} {s s':St} (h:Uz t k ty s=some s') {V:bA} {a:Act} {w:World} (hi:Inv P Γ w0 M B N F0 V0 s V a w):∃ V',Inv P Γ w0 M B N F0 V0 s' V' a w:=by
 unfold Sx.Uz at h
 split at h
 case h_2=>cases h
 rename_i hg
 split at h
 case h_2=>cases h
 rename_i g tb h1 h2
 cases h
 have hf:V.fresh s.nx:=hi.top.fresh
 have bT:=bA.cC hf s.nx (dF _) (by omega) (.slice none 0 0)
 have hT:St.T B { s with g:=g,tb:=tb,nx:=s.nx+1 }=fun l=>if l=s.nx then some (.dL k [] ty) else s.T B l:=by
  funext l
  simp only [St.T,Tr.gF _ _ _ _ _ h2 l]
  by_cases e:l=s.nx
  .simp [e]
  .simp [e]
 refine ⟨V.aZ s.nx (.slice none 0 0),fun m v hv=>?_,fun d v hv=>?_,hi.size,?_,?_,fun n l hl=>bT.1.1 _ _ (hi.aR n l hl),fun l hl=>?_,V0.le_trans hi.le bT.1,fun l hl=>?_,fun l hl hn=>?_,?_,fun l hl=>?_⟩
 .have hv:g.get m=some v:=hv
  rw [Tr.gF _ _ _ _ _ h1 m] at hv
  split at hv
  .rename_i e
   cases hv
   have:=hi.tmp t _ hg
   simp only [den,aV] at this
   rw [e,<- this]
   simp [den,bA.aZ]
  .exact nP bT.1 (hi.tmp m v hv)
 .have hv:g.get d=some v:=hv
  rw [Tr.gF _ _ _ _ _ h1 d] at hv
  split at hv
  .rename_i e;subst e;exact hi.keys d _ hg
  .exact hi.keys d v hv
 .obtain ⟨xs,h3,h4⟩:=hi.defers
  exact ⟨xs,cS bT.1 h3,h4⟩
 .rw [hT]
  refine hi.fA.step (N:=fun l=>if l=s.nx then some (.dL k [] ty) else none) bT.1 (fun l C hl=>?_) (fun l C hl=>?_) (fun l C n hl hn=>?_) (fun l C l' C' n _ hl _ _ hn=>?_) (dF _) (fun _ _ _=>rfl) rfl rfl rfl
  .by_cases e:l=s.nx
   .left;simpa [e] using hl
   .right;simpa [e] using hl
  .by_cases e:l=s.nx
   .simp only [if_pos e,aV] at hl
    subst hl e
    exact ⟨[],rfl,.slice none 0 0,by simp [bA.aZ],⟨rfl,.inl ⟨rfl,rfl⟩⟩,gO.nil rfl⟩
   .simp [e] at hl
  .by_cases e:l=s.nx
   .simp only [if_pos e,aV] at hl
    subst hl e
    simp [SB.aT,bA.aZ,Value.ownBlock] at hn
   .simp [e] at hl
  .by_cases e:l=s.nx
   .simp only [if_pos e,aV] at hl
    subst hl e
    simp [SB.aT,bA.aZ,Value.ownBlock] at hn
   .simp [e] at hl
 .have hl:s.nx+1<=l:=hl
  obtain ⟨e1,e2⟩:=hi.top l (by omega)
  exact ⟨e1,by simp only [bA.aZ];rw [if_neg (by omega)];exact e2⟩
 .have dJ:l≠s.nx:=by have:=hi.nx;omega
  refine ⟨(hi.low l hl).1,?_⟩
  simp only [bA.aZ,if_neg dJ]
  exact (hi.low l hl).2
 .have dJ:l≠s.nx:=by have:=hi.nx;omega
  show tb.get l=none
  rw [Tr.gF _ _ _ _ _ h2 l,if_neg dJ]
  exact hi.ch l hl hn
 .have:=hi.nx
  show F0<=s.nx+1
  omega
 .have hl:s.nx+1<=l:=hl
  rw [hT]
  simp only
  rw [if_neg (by omega)]
  exact hi.hi l (by omega)
theorem Inv.nL:∀ {l:List (Nat × IntKind × TypeId)} {s s':St},nL l s=some s'->∀ {V:bA} {a:Act} {w:World},Inv P Γ w0 M B N F0 V0 s V a w->∃ V',Inv P Γ w0 M B N F0 V0 s' V' a w
 | [],s,s',h,V,a,w,hi=>by simp only [Sx.nL,aV] at h;subst h;exact ⟨V,hi⟩
 | (t,k,ty)::r,s,s',h,V,a,w,hi=>by
   simp only [Sx.nL] at h
   split at h
   .rename_i s1 h1
    obtain ⟨V1,Uq⟩:=hi.Uz h1
    exact Inv.nL h Uq
   .cases h
noncomputable def toN (F0:Nat) (B:bB) (Cs:List (Nat × IntKind × TypeId)) (fC:List Nat) (gs:List (Nat × SV)) (tb:List (Nat × SB)) (nx:Nat) (ws:List Nat) (df:List SV) (r:Option qH):Option (Cf × List Fr × List Prop):=match r with
 | some r=>match nL Cs r.st with
   | some s=>MG F0 B fC gs tb nx ws df (some ⟨r.cf,r.fr,s⟩)
   | none=>none
 | none=>none
theorem Ku:∀ {l:List (Nat × IntKind × TypeId)} {s s':St},nL l s=some s'->s'.ob=s.ob
 | [],s,s',h=>by simp only [nL,aV] at h;subst h;rfl
 | (t,k,ty)::r,s,s',h=>by
   simp only [nL] at h
   split at h
   .rename_i s1 h1
    rw [Ku h]
    unfold Uz at h1
    split at h1
    .split at h1
     .cases h1;rfl
     .cases h1
    .cases h1
   .cases h
theorem G.toN (aW:cA P Γ) (aY:cH P Γ) (iQ:P.follows .mixedOrders=true) (hb:oZ Γ B F0 V0) {stops:List Nat} {lf n:Nat} {cf Yw:Cf} {K K':List Fr} {s:St} (hs:List Bool) {Cs:List (Nat × IntKind × TypeId)} {fC:List Nat} {gs:List (Nat × SV)} {tb:List (Nat × SB)} {nx:Nat} {ws:List Nat} {df:List SV} {ps:List Prop} {Q:Exit->Act->World->Prop}
 (h:toN F0 B Cs fC gs tb nx ws df (gV Γ B F0 N stops lf n cf K (s.hint hs))=some (Yw,K',ps)) (hp:∀ q∈ps,q) (hG:G P Γ w0 M B N F0 V0 Yw K' (cG gs tb nx ws df) Q):G P Γ w0 M B N F0 V0 cf K s Q:=by
 unfold Sx.toN at h
 split at h
 case h_2=>cases h
 rename_i r hr
 split at h
 case h_2=>cases h
 rename_i s0 h0
 unfold MG at h
 simp only at h
 split at h
 case h_2=>cases h
 rename_i s1 h1
 split at h
 case h_2=>cases h
 rename_i NK h2
 cases h
 have rK:=Ku h0
 have dY:G P Γ w0 M B N F0 V0 cf K (s.hint hs) Q:=by
  refine G.run aW aY iQ hr (fun q hq=>hp q (List.mem_append_left _ (rK ▸ hq))) ?_
  intro V a w hi
  obtain ⟨V1,Uq⟩:=Inv.nL h0 hi
  obtain ⟨V2,Qz⟩:=Uq.norm hb h1
  exact hG V2 a w (Qz.cast hb h2 (fR hp))
 intro V a w hi
 exact dY V a w (hi.hints s.ob hs)
mutual
def BX:SV->SV->List (Nat × Nat)
 | .ptr l _ _,.ptr l' _ _=>[(l',l)]
 | .aG l _ _ _ _,.aG l' _ _ _ _=>[(l',l)]
 | .dD l _ _ _,.dD l' _ _ _=>[(l',l)]
 | .buf l,.buf l'=>[(l',l)]
 | .iS l _,.iS l' _=>[(l',l)]
 | .lS l _ _,.lS l' _ _=>[(l',l)]
 | .iA l _,.iA l' _=>[(l',l)]
 | .rC _ v,.rC _ v'=>BX v v'
 | .agg vs,.agg us=>wS vs us
 | .eF vs,.eF us=>wS vs us
 | .fn _ xs ys,.fn _ us vs=>wS xs us++wS ys vs
 | _,_=>[]
def wS:List SV->List SV->List (Nat × Nat)
 | v::r,u::t=>BX v u++wS r t
 | _,_=>[]
end
def BY (g:Nat->Option SV):List (Nat × SV)->List (Nat × Nat)
 | []=>[]
 | (t,u)::r=>match g t with
   | some v=>BX v u++BY g r
   | none=>BY g r
def Dt (g:Nat->Option SB) (ps:List (Nat × Nat)):List (Nat × SB)->List (Nat × Nat)
 | []=>[]
 | (l,B)::r=>match B,look l ps with
   | .own us _,some k=>match g k with
     | some (.own vs _)=>wS vs us++Dt g ps r
     | _=>Dt g ps r
   | .own us _,none=>match g l with
     | some (.own vs _)=>wS vs us++Dt g ps r
     | _=>Dt g ps r
   | _,_=>Dt g ps r
def Ao (g:Nat->Option SB) (ps:List (Nat × Nat)):List (Nat × SB)->List (Nat × Nat)
 | []=>[]
 | (l,B)::r=>match B,look l ps with
   | .own us _,some k=>match g k with
     | some (.own vs _)=>wS vs us++Ao g ps r
     | _=>Ao g ps r
   | _,_=>Ao g ps r
def FE (ps:List (Nat × Nat)) (l:Nat):Nat->List Nat
 | 0=>[]
 | n+1=>(look l ps).getD 0::FE ps (l+1) n
noncomputable def aNt (F0:Nat) (gs:List (Nat × SV)) (tb:List (Nat × SB)) (nx:Nat) (s:St):List Nat:=
 let p1:=BY s.g.get gs
 let p2:=p1++Ao s.tb.get p1 tb
 let p3:=p2++Ao s.tb.get p2 tb
 let p4:=p3++Dt s.tb.get p3 tb
 FE p4 F0 (nx-F0)
noncomputable def xD (F0:Nat) (B:bB) (Cs:List (Nat × IntKind × TypeId)) (gs:List (Nat × SV)) (tb:List (Nat × SB)) (nx:Nat) (ws:List Nat) (df:List SV) (r:Option qH):Option (Cf × List Fr × List Prop):=match r with
 | some r=>match nL Cs r.st with
   | some s=>toN F0 B Cs (aNt F0 gs tb nx s) gs tb nx ws df (some r)
   | none=>none
 | none=>none
theorem G.xD (aW:cA P Γ) (aY:cH P Γ) (iQ:P.follows .mixedOrders=true) (hb:oZ Γ B F0 V0) {stops:List Nat} {lf n:Nat} {cf Yw:Cf} {K K':List Fr} {s:St} (hs:List Bool) {Cs:List (Nat × IntKind × TypeId)} {gs:List (Nat × SV)} {tb:List (Nat × SB)} {nx:Nat} {ws:List Nat} {df:List SV} {ps:List Prop} {Q:Exit->Act->World->Prop}
 (h:xD F0 B Cs gs tb nx ws df (gV Γ B F0 N stops lf n cf K (s.hint hs))=some (Yw,K',ps)) (hp:∀ q∈ps,q) (hG:G P Γ w0 M B N F0 V0 Yw K' (cG gs tb nx ws df) Q):G P Γ w0 M B N F0 V0 cf K s Q:=by
 unfold Sx.xD at h
 split at h
 case h_2=>cases h
 rename_i r hr
 split at h
 case h_2=>cases h
 rename_i s0 h0
 exact G.toN aW aY iQ hb hs (stops:=stops) (lf:=lf) (n:=n) (by rw [hr];exact h) hp hG
theorem G.kE (aW:cA P Γ) (aY:cH P Γ) (iQ:P.follows .mixedOrders=true) (hb:oZ Γ B F0 V0) {stops:List Nat} {lf n:Nat} {cf:Cf} {K1 K:List Fr} {s:St} (hs:List Bool) {Cs:List (Nat × IntKind × TypeId)} {gs:List (Nat × SV)} {tb:List (Nat × SB)} {nx:Nat} {ws:List Nat} {df:List SV} {ps:List Prop} {Q:Exit->Act->World->Prop} {S:Nat->St->Prop} {r:Nat}
 (h:Sx.xD F0 B Cs gs tb nx ws df (gV Γ B F0 N stops lf n cf K1 (s.hint hs))=some (.at .normal,[],ps)) (hp:∀ q∈ps,q) (r':Nat) (cL:r'<r) (hS:S r' (cG gs tb nx ws df)) :
 G P Γ w0 M B N F0 V0 cf K1 s (Exit.then (fun a w=>∃ r',r'<r/\∃ s',S r' s'/\∃ V,Inv P Γ w0 M B N F0 V0 s' V a w) (KQ P K Q)):=
 G.xD aW aY iQ hb hs h hp (G.again fun V _ _ hi=>⟨r',cL,_,hS,V,hi⟩)
end
theorem TD {α:Type} (tm:Array α) (t:Nat) (d:α):tm.setIfInBounds t (tm.getD t d)=tm:=by
 apply Array.ext
 .simp
 .intro i h1 h2
  rw [Array.getElem_setIfInBounds (by simpa using h1)]
  split
  .rename_i e;subst e;simp [Array.getD_eq_getD_getElem?,h2]
  .rfl
theorem Act.pT (a:Act) (t:Tmp):a.put (some t) (a.eval (.tmp t))=a:=by
 obtain ⟨tm,df⟩:=a
 show Act.mk (tm.setIfInBounds t (tm.getD t undef)) df=_
 rw [TD]
section
variable {w0 w:World} {M:Nat->Prop} {V:bA} {T:bB} {lab:Nat}
theorem aD.close (h:aD w0 M V T w) (hf:V.fresh lab) (lN:∀ k,lab<=k->T k=none) {l cap n m:Nat} {cells:List SV} {el:TypeId} (hl:T l=some (.own cells el)) (hc:cells.length=cap) (hm:m<=cap) (rM:cap<=1000000) {lb:Nat} {cs:List SV} {ty:TypeId} {i:Nat}
 (hb:T lb=some (.own cs ty)) (hi:cs[i]?=some (.aG l true 0 n cap)) (dJ:l≠lb) (v:SV) :
 ∃ V',V.ext lab V'/\aD w0 M V' (eQ T lab { val:=v,new:=[.row 1 (cells.take m) el],wr:=[(l,.gone),(lb,.own (cs.set i (.dD lab 0 n 0)) ty)] }) w:=by
 obtain ⟨us,Dj,b,hβ,hh⟩:=h.ok l _ hl
 obtain ⟨xs,nE,b2,lM,NT⟩:=h.ok lb _ hb
 have cL:l<lab:=Nat.lt_of_not_le fun q=>by rw [lN l q] at hl;cases hl
 have PG:lb<lab:=Nat.lt_of_not_le fun q=>by rw [lN lb q] at hb;cases hb
 have bT:V.ext lab ((V.put lab (b,0)).aZ lab (.int .i64 (cap:Nat))):=by
  have h1:=bA.kQ hf lab (dF _) (by omega) (b,0)
  refine ⟨⟨fun k p hp=>h1.1.1 k p hp,fun k p hp=>?_⟩,fun k hk=>⟨(h1.2 k hk).1,?_⟩⟩
  .simp only [bA.aZ]
   by_cases e:k=lab
   .subst e;rw [(hf k (dF _) (by omega)).2] at hp;cases hp
   .rw [if_neg e];exact hp
  .simp only [bA.aZ]
   rw [if_neg (by omega)]
   rfl
 refine ⟨_,bT,?_⟩
 obtain ⟨V',Mf⟩:∃ V',V'=(V.put lab (b,0)).aZ lab (.int .i64 (cap:Nat)):=⟨_,rfl⟩
 rw [<- Mf] at bT |-
 have e1:V'.β lab=some (b,0):=by rw [Mf];simp [bA.put,bA.aZ]
 have e2:V'.σ lab=some (.int .i64 (cap:Nat)):=by rw [Mf];simp [bA.aZ]
 have wT:us.length=cap:=by rw [bG Dj,hc]
 have Zo:b≠b2:=by
  intro e
  exact h.jI l _ lb _ b dJ hl hb rfl (by simp [SB.aT,hβ]) (by simp [SB.aT,lM,e])
 have nX:aI V' (cs.set i (.dD lab 0 n 0))=some xs:=by
  have fO:aI V' cs=some xs:=cS bT.1 nE
  obtain ⟨x,mJ,Fi⟩:=dO fO i _ hi
  have hx4:den V' (.dD lab 0 n 0)=some x:=by
   simp only [den,bT.1.1 _ _ hβ,gQ,aV] at Fi
   rw [<- Fi]
   simp [den,e1,e2,pM]
  have gen:∀ (cs:List SV) (xs:List Value) (i:Nat),aI V' cs=some xs->xs[i]?=some x->aI V' (cs.set i (.dD lab 0 n 0))=some xs:=by
   intro cs
   induction cs with
   | nil=>intro xs i h1 h2;simpa using h1
   | cons c r ih=>
     intro xs i h1 h2
     simp only [aI,dC,gL] at h1
     obtain ⟨y,hy,ys,pE,rfl⟩:=h1
     cases i with
     | zero=>
       simp only [List.getElem?_cons_zero,aV] at h2
       subst h2
       simp only [List.set_cons_zero,aI,hx4,pE,mZ,gQ]
     | succ i=>
       simp only [List.getElem?_cons_succ] at h2
       simp only [List.set_cons_succ,aI,hy,ih ys i pE h2,mZ,gQ]
  exact gen cs xs i fO mJ
 refine h.step (N:=fun k=>if k=lab then some (.row 1 (cells.take m) el) else if k=l then some .gone else if k=lb then some (.own (cs.set i (.dD lab 0 n 0)) ty) else none) bT.1 (fun k C hk=>?_) (fun k C hk=>?_) (fun k C p hk hp=>?_) (fun k C k' C' p zO hk iH ho hp=>?_) (dF _) (fun _ _ _=>rfl) rfl rfl rfl
 .simp only [eQ,bK.fA,gC,List.cons_append,oR] at hk
  by_cases k1:l=k
  .subst k1
   rw [aK] at hk
   left
   simp only [if_neg (show ¬ l=lab by omega),if_true]
   simpa using hk
  .rw [aH k1] at hk
   by_cases k2:lb=k
   .subst k2
    rw [aK] at hk
    left
    simp only [if_neg (show ¬ lb=lab by omega),if_neg (fun q=>dJ (Eq.symm q)),if_true]
    simpa using hk
   .rw [aH k2] at hk
    by_cases k3:lab=k
    .subst k3;rw [aK] at hk;left;simpa using hk
    .rw [aH k3] at hk
     right
     simp only [look] at hk
     exact ⟨by rw [if_neg (fun q=>k3 q.symm),if_neg (fun q=>k1 q.symm),if_neg (fun q=>k2 q.symm)],hk⟩
 .by_cases k1:k=lab
  .rw [if_pos k1] at hk
   cases hk
   subst k1
   refine ⟨us.take m,by simp only [SB.cells];exact cS bT.1 (dZ m Dj),b,cap,us.toArray,e1,e2,hh,?_,by simp [wT],⟨m,by simp [wT];omega,hm⟩,by simp⟩
   have:(1000000:Nat)<=maxLen:=by decide
   omega
  .rw [if_neg k1] at hk
   by_cases k2:k=l
   .rw [if_pos k2] at hk;cases hk;exact ⟨[],rfl,trivial⟩
   .rw [if_neg k2] at hk
    by_cases k3:k=lb
    .rw [if_pos k3] at hk
     cases hk
     subst k3
     exact ⟨xs,nX,b2,bT.1.1 _ _ lM,NT⟩
    .rw [if_neg k3] at hk;cases hk
 .by_cases k1:k=lab
  .rw [if_pos k1] at hk
   cases hk
   subst k1
   simp only [SB.aT,e1,gQ,aV] at hp
   subst hp
   right;left
   exact ⟨l,_,hl,rfl,by simp [SB.aT,hβ],by simp [if_neg (show ¬ l=k by omega)]⟩
  .rw [if_neg k1] at hk
   by_cases k2:k=l
   .rw [if_pos k2] at hk;cases hk;cases hp
   .rw [if_neg k2] at hk
    by_cases k3:k=lb
    .rw [if_pos k3] at hk
     cases hk
     subst k3
     simp only [SB.aT,bT.1.1 _ _ lM,gQ,aV] at hp
     subst hp
     right;left
     exact ⟨k,_,hb,rfl,by simp [SB.aT,lM],by simp [if_neg k1,if_neg k2]⟩
    .rw [if_neg k3] at hk;cases hk
 .have aT:∀ k C p,(if k=lab then some (SB.row 1 (cells.take m) el) else if k=l then some .gone else if k=lb then some (.own (cs.set i (.dD lab 0 n 0)) ty) else none)=some C->C.aT V' k=some p->(k=lab/\p=b)\/(k=lb/\p=b2):=by
   intro k C p hk hp
   by_cases k1:k=lab
   .rw [if_pos k1] at hk
    cases hk
    subst k1
    simp only [SB.aT,e1,gQ,aV] at hp
    exact .inl ⟨rfl,hp.symm⟩
   .rw [if_neg k1] at hk
    by_cases k2:k=l
    .rw [if_pos k2] at hk;cases hk;cases hp
    .rw [if_neg k2] at hk
     by_cases k3:k=lb
     .rw [if_pos k3] at hk
      cases hk
      subst k3
      simp only [SB.aT,bT.1.1 _ _ lM,gQ,aV] at hp
      exact .inr ⟨rfl,hp.symm⟩
     .rw [if_neg k3] at hk;cases hk
  intro Uo
  rcases aT k C p hk hp with ⟨r1,r2⟩ | ⟨r1,r2⟩ <;> rcases aT k' C' p iH Uo with ⟨r3,r4⟩ | ⟨r3,r4⟩
  .omega
  .exact Zo (r2.symm.trans r4)
  .exact Zo (r4.symm.trans r2)
  .omega
theorem aD.aIq (h:aD w0 M V T w) (hf:V.fresh lab) (lN:∀ k,lab<=k->T k=none) {l cap n m:Nat} {cells:List SV} {el:TypeId} (hl:T l=some (.own cells el)) (hc:cells.length=cap) (hm:m<=cap) (rM:cap<=1000000) {x:Value} (hx:den V (.aG l true 0 n cap)=some x) :
 ∃ V',V.ext lab V'/\den V' (.dD lab 0 n 0)=some x/\aD w0 M V' (eQ T lab { val:=.dD lab 0 n 0,new:=[.row 1 (cells.take m) el],wr:=[(l,.gone)] }) w:=by
 obtain ⟨us,Dj,b,hβ,hh⟩:=h.ok l _ hl
 have cL:l<lab:=Nat.lt_of_not_le fun q=>by rw [lN l q] at hl;cases hl
 have bT:V.ext lab ((V.put lab (b,0)).aZ lab (.int .i64 (cap:Nat))):=by
  have h1:=bA.kQ hf lab (dF _) (by omega) (b,0)
  refine ⟨⟨fun k p hp=>h1.1.1 k p hp,fun k p hp=>?_⟩,fun k hk=>⟨(h1.2 k hk).1,?_⟩⟩
  .simp only [bA.aZ]
   by_cases e:k=lab
   .subst e;rw [(hf k (dF _) (by omega)).2] at hp;cases hp
   .rw [if_neg e];exact hp
  .simp only [bA.aZ]
   rw [if_neg (by omega)]
   rfl
 refine ⟨_,bT,?_⟩
 obtain ⟨V',Mf⟩:∃ V',V'=(V.put lab (b,0)).aZ lab (.int .i64 (cap:Nat)):=⟨_,rfl⟩
 rw [<- Mf] at bT |-
 have e1:V'.β lab=some (b,0):=by rw [Mf];simp [bA.put,bA.aZ]
 have e2:V'.σ lab=some (.int .i64 (cap:Nat)):=by rw [Mf];simp [bA.aZ]
 have wT:us.length=cap:=by rw [bG Dj,hc]
 refine ⟨?_,?_⟩
 .simp only [den,hβ,gQ,aV] at hx
  rw [<- hx]
  simp [den,e1,e2,pM]
 refine h.step (N:=fun k=>if k=lab then some (.row 1 (cells.take m) el) else if k=l then some .gone else none) bT.1 (fun k C hk=>?_) (fun k C hk=>?_) (fun k C p hk hp=>?_) (fun k C k' C' p zO hk iH ho hp=>?_) (dF _) (fun _ _ _=>rfl) rfl rfl rfl
 .simp only [eQ,bK.fA,gC,List.cons_append,oR] at hk
  by_cases k1:l=k
  .subst k1
   rw [aK] at hk
   left
   simp only [if_neg (show ¬ l=lab by omega),if_true]
   simpa using hk
  .rw [aH k1] at hk
   by_cases k3:lab=k
   .subst k3;rw [aK] at hk;left;simpa using hk
   .rw [aH k3] at hk
    right
    simp only [look] at hk
    exact ⟨by rw [if_neg (fun q=>k3 q.symm),if_neg (fun q=>k1 q.symm)],hk⟩
 .by_cases k1:k=lab
  .rw [if_pos k1] at hk
   cases hk
   subst k1
   refine ⟨us.take m,by simp only [SB.cells];exact cS bT.1 (dZ m Dj),b,cap,us.toArray,e1,e2,hh,?_,by simp [wT],⟨m,by simp [wT];omega,hm⟩,by simp⟩
   have:(1000000:Nat)<=maxLen:=by decide
   omega
  .rw [if_neg k1] at hk
   by_cases k2:k=l
   .rw [if_pos k2] at hk;cases hk;exact ⟨[],rfl,trivial⟩
   .rw [if_neg k2] at hk;cases hk
 .by_cases k1:k=lab
  .rw [if_pos k1] at hk
   cases hk
   subst k1
   simp only [SB.aT,e1,gQ,aV] at hp
   subst hp
   right;left
   exact ⟨l,_,hl,rfl,by simp [SB.aT,hβ],by simp [if_neg (show ¬ l=k by omega)]⟩
  .rw [if_neg k1] at hk
   by_cases k2:k=l
   .rw [if_pos k2] at hk;cases hk;cases hp
   .rw [if_neg k2] at hk;cases hk
 .intro Uo
  by_cases k1:k=lab
  .by_cases k2:k'=lab
   .omega
   .rw [if_neg k2] at iH
    by_cases k3:k'=l
    .rw [if_pos k3] at iH;cases iH;cases Uo
    .rw [if_neg k3] at iH;cases iH
  .rw [if_neg k1] at hk
   by_cases k3:k=l
   .rw [if_pos k3] at hk;cases hk;cases ho
   .rw [if_neg k3] at hk;cases hk
theorem aD.aIr (h:aD w0 M V T w) (hf:V.fresh lab) (lN:∀ k,lab<=k->T k=none) {l cap n:Nat} {cells:List SV} {el:TypeId} {k0:IntKind} {ns:List Int} (hl:T l=some (.own cells el)) (hc:cells.length=cap) (hn:n<=cap) (rM:cap<=1000000) (hk:cR k0 (cells.take n)=some ns) (kB:(cR k0 cells).isSome=true) {x:Value} (hx:den V (.aG l true 0 n cap)=some x) :
 ∃ V',V.ext lab V'/\den V' (.buf lab)=some x/\aD w0 M V' (eQ T lab { val:=.buf lab,new:=[.dL k0 ns el],wr:=[(l,.gone)] }) w:=by
 obtain ⟨us,Dj,b,hβ,hh⟩:=h.ok l _ hl
 have cL:l<lab:=Nat.lt_of_not_le fun q=>by rw [lN l q] at hl;cases hl
 have bT:=bA.cC hf lab (dF _) (by omega) x
 have e2:(V.aZ lab x).σ lab=some x:=by simp [bA.aZ]
 have wT:us.length=cap:=by rw [bG Dj,hc]
 have hx':x = .slice (some ⟨b,0,none⟩) n cap:=by
  simp only [den,hβ,gQ,aV] at hx
  exact hx.symm
 have dK:us.take n=ns.map (Value.int k0):=by
  have h1:=dZ n Dj
  have h2:=cQ (V:=V) hk
  rw [h1] at h2
  exact Option.some.inj h2
 have CT:ns.length=n:=by
  have:=congrArg List.length dK
  simp [wT] at this
  omega
 refine ⟨_,bT,by simp [den,e2],?_⟩
 refine h.step (N:=fun k=>if k=lab then some (.dL k0 ns el) else if k=l then some .gone else none) bT.1 (fun k C hk=>?_) (fun k C hk=>?_) (fun k C p hk hp=>?_) (fun k C k' C' p zO hk iH ho hp=>?_) (dF _) (fun _ _ _=>rfl) rfl rfl rfl
 .simp only [eQ,bK.fA,gC,List.cons_append,oR] at hk
  by_cases k1:l=k
  .subst k1
   rw [aK] at hk
   left
   simp only [if_neg (show ¬ l=lab by omega),if_true]
   simpa using hk
  .rw [aH k1] at hk
   by_cases k3:lab=k
   .subst k3;rw [aK] at hk;left;simpa using hk
   .rw [aH k3] at hk
    right
    simp only [look] at hk
    exact ⟨by rw [if_neg (fun q=>k3 q.symm),if_neg (fun q=>k1 q.symm)],hk⟩
 .by_cases k1:k=lab
  .rw [if_pos k1] at hk
   cases hk
   subst k1
   refine ⟨_,rfl,x,e2,⟨by simp,.inr ⟨b,cap,us.toArray,?_,Nat.zero_le _,hh,by rw [CT];exact hn,?_,by simp [wT],?_⟩⟩,fun b' iD=>?_⟩
   .rw [hx',CT]
   .have:(1000000:Nat)<=maxLen:=by decide
    omega
   .rw [CT,<- dK];simp
   .rw [hx'] at iD
    cases iD
    obtain ⟨ms,Zj⟩:=Option.isSome_iff_exists.1 kB
    have h2:=cQ (V:=V) Zj
    have aSu:aI V cells=some us:=Dj
    rw [aSu] at h2
    cases h2
    refine ⟨_,_,_,hh,fun q hq=>?_⟩
    obtain ⟨n,_,rfl⟩:=List.mem_map.1 (by simpa using hq)
    exact ⟨n,rfl⟩
  .rw [if_neg k1] at hk
   by_cases k2:k=l
   .rw [if_pos k2] at hk;cases hk;exact ⟨[],rfl,trivial⟩
   .rw [if_neg k2] at hk;cases hk
 .by_cases k1:k=lab
  .rw [if_pos k1] at hk
   cases hk
   subst k1
   simp only [SB.aT,e2,mZ] at hp
   rw [hx'] at hp
   simp only [Value.ownBlock,aV] at hp
   subst hp
   right;left
   exact ⟨l,_,hl,rfl,by simp [SB.aT,hβ],by simp [if_neg (show ¬ l=k by omega)]⟩
  .rw [if_neg k1] at hk
   by_cases k2:k=l
   .rw [if_pos k2] at hk;cases hk;cases hp
   .rw [if_neg k2] at hk;cases hk
 .intro Uo
  by_cases k1:k=lab
  .by_cases k2:k'=lab
   .omega
   .rw [if_neg k2] at iH
    by_cases k3:k'=l
    .rw [if_pos k3] at iH;cases iH;cases Uo
    .rw [if_neg k3] at iH;cases iH
  .rw [if_neg k1] at hk
   by_cases k3:k=l
   .rw [if_pos k3] at hk;cases hk;cases ho
   .rw [if_neg k3] at hk;cases hk
theorem aD.aJa (hT:aD w0 M V T w) (hf:V.fresh lab) {l n:Nat} {k:IntKind} {xs:List Int} (hB:T l=some (.iT k xs)) {x:Value} (hx:den V (.iA l n)=some x) :
 ∃ V',V.ext lab V'/\den V' (.iA lab n)=some x/\aD w0 M V' (eQ T lab { val:=.iA lab n,new:=[.iT k xs] }) w:=by
 simp only [den,gL] at hx
 obtain ⟨v,hσ,ex⟩:=hx
 obtain ⟨cs,hc,v',gD,bQ⟩:=hT.ok l _ hB
 rw [hσ] at gD
 cases gD
 have bT:=bA.cC hf lab (dF _) (by omega) v
 refine ⟨V.aZ lab v,bT,by simp [den,bA.aZ,ex],?_⟩
 refine hT.step (N:=fun m=>if m=lab then some (.iT k xs) else none) bT.1 (fun m C hm=>?_) (fun m C hm=>?_) (fun m C q hm hq=>?_) (fun m C m' C' q dJ hm jZ Dl _=>?_) (dF _) (fun _ _ _=>rfl) rfl rfl rfl
 .unfold eQ bK.fA at hm
  simp only [gC,oR,look] at hm
  by_cases e:m=lab
  .subst e
   left
   simpa using hm
  .right
   refine ⟨if_neg e,?_⟩
   have:Nat.beq lab m=false:=by
    cases nC:Nat.beq lab m with
    | false=>rfl
    | true=>exact absurd (cM nC).symm e
   simpa [this] using hm
 .split at hm
  .rename_i e
   subst e
   cases hm
   exact ⟨cs,hc,v,by simp [bA.aZ],bQ⟩
  .cases hm
 .split at hm
  .rename_i e
   subst e
   cases hm
   refine .inr (.inr ⟨rfl,fun l2 B2 hn2 vJ Dl nC=>?_⟩)
   simp only [SB.aT,bA.aZ,if_pos,mZ] at hq
   have dJ:l2≠l:=fun e=>by subst e;rw [hB] at vJ;cases vJ;cases Dl
   exact hT.jI l2 B2 l _ q dJ vJ hB Dl nC (by simp [SB.aT,hσ,hq])
  .cases hm
 .split at hm
  .cases hm;cases Dl
  .cases hm
theorem nQ {V:bA} {x:Value} {v:SV} (hv:den V v=some x):∀ (cs:List SV) (xs:List Value) (i:Nat),aI V cs=some xs->xs[i]?=some x->aI V (cs.set i v)=some xs
 | [],xs,i,h1,h2=>by simpa using h1
 | c::r,xs,i,h1,h2=>by
   simp only [aI,dC,gL] at h1
   obtain ⟨y,hy,ys,pE,rfl⟩:=h1
   cases i with
   | zero=>
     simp only [List.getElem?_cons_zero,aV] at h2
     subst h2
     simp only [List.set_cons_zero,aI,hv,pE,mZ,gQ]
   | succ i=>
     simp only [List.getElem?_cons_succ] at h2
     simp only [List.set_cons_succ,aI,hy,nQ hv r ys i pE h2,mZ,gQ]
theorem aD.aRp (h:aD w0 M V T w) (hf:V.fresh lab) (lN:∀ k,lab<=k->T k=none) {lb:Nat} {cs:List SV} {ty el:TypeId} {k0:IntKind} {i:Nat}
 (hb:T lb=some (.own cs ty)) (hi:cs[i]?=some (.raw (.slice none 0 0))) (v:SV) :
 ∃ V',V.ext lab V'/\aD w0 M V' (eQ T lab { val:=v,new:=[.dL k0 [] el],wr:=[(lb,.own (cs.set i (.buf lab)) ty)] }) w:=by
 obtain ⟨xs,nE,b2,lM,NT⟩:=h.ok lb _ hb
 have PG:lb<lab:=Nat.lt_of_not_le fun q=>by rw [lN lb q] at hb;cases hb
 have bT:=bA.cC hf lab (dF _) (by omega) (.slice none 0 0)
 refine ⟨_,bT,?_⟩
 have e2:(V.aZ lab (.slice none 0 0)).σ lab=some (.slice none 0 0):=by simp [bA.aZ]
 have nX:aI (V.aZ lab (.slice none 0 0)) (cs.set i (.buf lab))=some xs:=by
  have fO:aI (V.aZ lab (.slice none 0 0)) cs=some xs:=cS bT.1 nE
  obtain ⟨x,mJ,Fi⟩:=dO fO i _ hi
  simp only [den,aV] at Fi
  exact nQ (by rw [<- Fi];simp [den,e2]) cs xs i fO mJ
 refine h.step (N:=fun k=>if k=lab then some (.dL k0 [] el) else if k=lb then some (.own (cs.set i (.buf lab)) ty) else none) bT.1 (fun k C hk=>?_) (fun k C hk=>?_) (fun k C p hk hp=>?_) (fun k C k' C' p zO hk iH ho hp=>?_) (dF _) (fun _ _ _=>rfl) rfl rfl rfl
 .simp only [eQ,bK.fA,gC,List.cons_append,oR] at hk
  by_cases k2:lb=k
  .subst k2
   rw [aK] at hk
   left
   simp only [if_neg (show ¬ lb=lab by omega),if_true]
   simpa using hk
  .rw [aH k2] at hk
   by_cases k3:lab=k
   .subst k3;rw [aK] at hk;left;simpa using hk
   .rw [aH k3] at hk
    right
    simp only [look] at hk
    exact ⟨by rw [if_neg (fun q=>k3 q.symm),if_neg (fun q=>k2 q.symm)],hk⟩
 .by_cases k1:k=lab
  .rw [if_pos k1] at hk
   cases hk
   subst k1
   exact ⟨[],rfl,_,e2,⟨rfl,.inl ⟨rfl,rfl⟩⟩,gO.nil rfl⟩
  .rw [if_neg k1] at hk
   by_cases k3:k=lb
   .rw [if_pos k3] at hk
    cases hk
    subst k3
    exact ⟨xs,nX,b2,bT.1.1 _ _ lM,NT⟩
   .rw [if_neg k3] at hk;cases hk
 .by_cases k1:k=lab
  .rw [if_pos k1] at hk
   cases hk
   subst k1
   simp [SB.aT,e2,Value.ownBlock] at hp
  .rw [if_neg k1] at hk
   by_cases k3:k=lb
   .rw [if_pos k3] at hk
    cases hk
    subst k3
    simp only [SB.aT,bT.1.1 _ _ lM,gQ,aV] at hp
    subst hp
    right;left
    exact ⟨k,_,hb,rfl,by simp [SB.aT,lM],by simp [if_neg k1]⟩
   .rw [if_neg k3] at hk;cases hk
 .intro Uo
  by_cases k1:k=lab
  .rw [if_pos k1] at hk
   cases hk
   subst k1
   simp [SB.aT,e2,Value.ownBlock] at hp
  .by_cases k2:k'=lab
   .rw [if_pos k2] at iH
    cases iH
    subst k2
    simp [SB.aT,e2,Value.ownBlock] at Uo
   .rw [if_neg k1] at hk
    rw [if_neg k2] at iH
    by_cases k3:k=lb
    .by_cases k4:k'=lb
     .omega
     .rw [if_neg k4] at iH;cases iH
    .rw [if_neg k3] at hk;cases hk
theorem aD.aBm (h:aD w0 M V T w) (hf:V.fresh lab) (lN:∀ k,lab<=k->T k=none) {lb:Nat} {cs:List SV} {ty el:TypeId} {sz:Nat} {i:Nat}
 (hb:T lb=some (.own cs ty)) (hi:cs[i]?=some (.raw (.slice none 0 0))) (v:SV) :
 ∃ V',V.ext lab V'/\aD w0 M V' (eQ T lab { val:=v,new:=[.fM sz 0 el],wr:=[(lb,.own (cs.set i (.buf lab)) ty)] }) w:=by
 obtain ⟨xs,nE,b2,lM,NT⟩:=h.ok lb _ hb
 have PG:lb<lab:=Nat.lt_of_not_le fun q=>by rw [lN lb q] at hb;cases hb
 have bT:=bA.cC hf lab (dF _) (by omega) (.slice none 0 0)
 refine ⟨_,bT,?_⟩
 have e2:(V.aZ lab (.slice none 0 0)).σ lab=some (.slice none 0 0):=by simp [bA.aZ]
 have nX:aI (V.aZ lab (.slice none 0 0)) (cs.set i (.buf lab))=some xs:=by
  have fO:aI (V.aZ lab (.slice none 0 0)) cs=some xs:=cS bT.1 nE
  obtain ⟨x,mJ,Fi⟩:=dO fO i _ hi
  simp only [den,aV] at Fi
  exact nQ (by rw [<- Fi];simp [den,e2]) cs xs i fO mJ
 refine h.step (N:=fun k=>if k=lab then some (.fM sz 0 el) else if k=lb then some (.own (cs.set i (.buf lab)) ty) else none) bT.1 (fun k C hk=>?_) (fun k C hk=>?_) (fun k C p hk hp=>?_) (fun k C k' C' p zO hk iH ho hp=>?_) (dF _) (fun _ _ _=>rfl) rfl rfl rfl
 .simp only [eQ,bK.fA,gC,List.cons_append,oR] at hk
  by_cases k2:lb=k
  .subst k2
   rw [aK] at hk
   left
   simp only [if_neg (show ¬ lb=lab by omega),if_true]
   simpa using hk
  .rw [aH k2] at hk
   by_cases k3:lab=k
   .subst k3;rw [aK] at hk;left;simpa using hk
   .rw [aH k3] at hk
    right
    simp only [look] at hk
    exact ⟨by rw [if_neg (fun q=>k3 q.symm),if_neg (fun q=>k2 q.symm)],hk⟩
 .by_cases k1:k=lab
  .rw [if_pos k1] at hk
   cases hk
   subst k1
   exact ⟨[],rfl,_,[],e2,⟨by simp,.inl ⟨rfl,rfl⟩⟩,fun q hq=>by cases hq⟩
  .rw [if_neg k1] at hk
   by_cases k3:k=lb
   .rw [if_pos k3] at hk
    cases hk
    subst k3
    exact ⟨xs,nX,b2,bT.1.1 _ _ lM,NT⟩
   .rw [if_neg k3] at hk;cases hk
 .by_cases k1:k=lab
  .rw [if_pos k1] at hk
   cases hk
   subst k1
   simp [SB.aT,e2,Value.ownBlock] at hp
  .rw [if_neg k1] at hk
   by_cases k3:k=lb
   .rw [if_pos k3] at hk
    cases hk
    subst k3
    simp only [SB.aT,bT.1.1 _ _ lM,gQ,aV] at hp
    subst hp
    right;left
    exact ⟨k,_,hb,rfl,by simp [SB.aT,lM],by simp [if_neg k1]⟩
   .rw [if_neg k3] at hk;cases hk
 .intro Uo
  by_cases k1:k=lab
  .rw [if_pos k1] at hk
   cases hk
   subst k1
   simp [SB.aT,e2,Value.ownBlock] at hp
  .by_cases k2:k'=lab
   .rw [if_pos k2] at iH
    cases iH
    subst k2
    simp [SB.aT,e2,Value.ownBlock] at Uo
   .rw [if_neg k1] at hk
    rw [if_neg k2] at iH
    by_cases k3:k=lb
    .by_cases k4:k'=lb
     .omega
     .rw [if_neg k4] at iH;cases iH
    .rw [if_neg k3] at hk;cases hk
theorem aD.aNf (h:aD w0 M V T w) (hf:V.fresh lab) (lN:∀ k,lab<=k->T k=none) {lb:Nat} {cs:List SV} {ty el:TypeId} {i:Nat}
 (hb:T lb=some (.own cs ty)) (hi:cs[i]?=some (.raw (.slice none 0 0))) (v:SV) :
 ∃ V',V.ext lab V'/\aD w0 M V' (eQ T lab { val:=v,new:=[.eH [] el],wr:=[(lb,.own (cs.set i (.buf lab)) ty)] }) w:=by
 obtain ⟨xs,nE,b2,lM,NT⟩:=h.ok lb _ hb
 have PG:lb<lab:=Nat.lt_of_not_le fun q=>by rw [lN lb q] at hb;cases hb
 have bT:=bA.cC hf lab (dF _) (by omega) (.slice none 0 0)
 refine ⟨_,bT,?_⟩
 have e2:(V.aZ lab (.slice none 0 0)).σ lab=some (.slice none 0 0):=by simp [bA.aZ]
 have nX:aI (V.aZ lab (.slice none 0 0)) (cs.set i (.buf lab))=some xs:=by
  have fO:aI (V.aZ lab (.slice none 0 0)) cs=some xs:=cS bT.1 nE
  obtain ⟨x,mJ,Fi⟩:=dO fO i _ hi
  simp only [den,aV] at Fi
  exact nQ (by rw [<- Fi];simp [den,e2]) cs xs i fO mJ
 refine h.step (N:=fun k=>if k=lab then some (.eH [] el) else if k=lb then some (.own (cs.set i (.buf lab)) ty) else none) bT.1 (fun k C hk=>?_) (fun k C hk=>?_) (fun k C p hk hp=>?_) (fun k C k' C' p zO hk iH ho hp=>?_) (dF _) (fun _ _ _=>rfl) rfl rfl rfl
 .simp only [eQ,bK.fA,gC,List.cons_append,oR] at hk
  by_cases k2:lb=k
  .subst k2
   rw [aK] at hk
   left
   simp only [if_neg (show ¬ lb=lab by omega),if_true]
   simpa using hk
  .rw [aH k2] at hk
   by_cases k3:lab=k
   .subst k3;rw [aK] at hk;left;simpa using hk
   .rw [aH k3] at hk
    right
    simp only [look] at hk
    exact ⟨by rw [if_neg (fun q=>k3 q.symm),if_neg (fun q=>k2 q.symm)],hk⟩
 .by_cases k1:k=lab
  .rw [if_pos k1] at hk
   cases hk
   subst k1
   exact ⟨[],rfl,_,e2,⟨by simp,.inl ⟨rfl,rfl⟩⟩⟩
  .rw [if_neg k1] at hk
   by_cases k3:k=lb
   .rw [if_pos k3] at hk
    cases hk
    subst k3
    exact ⟨xs,nX,b2,bT.1.1 _ _ lM,NT⟩
   .rw [if_neg k3] at hk;cases hk
 .by_cases k1:k=lab
  .rw [if_pos k1] at hk
   cases hk
   subst k1
   simp [SB.aT,e2,Value.ownBlock] at hp
  .rw [if_neg k1] at hk
   by_cases k3:k=lb
   .rw [if_pos k3] at hk
    cases hk
    subst k3
    simp only [SB.aT,bT.1.1 _ _ lM,gQ,aV] at hp
    subst hp
    right;left
    exact ⟨k,_,hb,rfl,by simp [SB.aT,lM],by simp [if_neg k1]⟩
   .rw [if_neg k3] at hk;cases hk
 .intro Uo
  by_cases k1:k=lab
  .rw [if_pos k1] at hk
   cases hk
   subst k1
   simp [SB.aT,e2,Value.ownBlock] at hp
  .by_cases k2:k'=lab
   .rw [if_pos k2] at iH
    cases iH
    subst k2
    simp [SB.aT,e2,Value.ownBlock] at Uo
   .rw [if_neg k1] at hk
    rw [if_neg k2] at iH
    by_cases k3:k=lb
    .by_cases k4:k'=lb
     .omega
     .rw [if_neg k4] at iH;cases iH
    .rw [if_neg k3] at hk;cases hk
theorem aD.aRo (hT:aD w0 M V T w) (hf:V.fresh lab) {sz:Nat} {el:TypeId} {x:Value} (hx:den V (.raw (.slice none 0 0))=some x) :
 ∃ V',V.ext lab V'/\den V' (.buf lab)=some x/\aD w0 M V' (eQ T lab { val:=.buf lab,new:=[.fM sz 0 el] }) w:=by
 simp only [den,aV] at hx
 subst hx
 have bT:=bA.cC hf lab (dF _) (by omega) (.slice none 0 0)
 have e2:(V.aZ lab (.slice none 0 0)).σ lab=some (.slice none 0 0):=by simp [bA.aZ]
 refine ⟨V.aZ lab (.slice none 0 0),bT,by simp [den,e2],?_⟩
 refine hT.step (N:=fun m=>if m=lab then some (.fM sz 0 el) else none) bT.1 (fun m C hm=>?_) (fun m C hm=>?_) (fun m C q hm hq=>?_) (fun m C m' C' q dJ hm jZ Dl hq=>?_) (dF _) (fun _ _ _=>rfl) rfl rfl rfl
 .unfold eQ bK.fA at hm
  simp only [gC,oR,look] at hm
  by_cases e:m=lab
  .subst e
   left
   simpa using hm
  .right
   refine ⟨if_neg e,?_⟩
   have:Nat.beq lab m=false:=by
    cases nC:Nat.beq lab m with
    | false=>rfl
    | true=>exact absurd (cM nC).symm e
   simpa [this] using hm
 .split at hm
  .rename_i e
   subst e
   cases hm
   exact ⟨[],rfl,_,[],e2,⟨by simp,.inl ⟨rfl,rfl⟩⟩,fun q hq=>by cases hq⟩
  .cases hm
 .split at hm
  .rename_i e
   subst e
   cases hm
   simp [SB.aT,e2,Value.ownBlock] at hq
  .cases hm
 .split at hm
  .rename_i e
   subst e
   cases hm
   simp [SB.aT,e2,Value.ownBlock] at hq
  .cases hm
theorem aD.aNe (hT:aD w0 M V T w) (hf:V.fresh lab) {el:TypeId} {x:Value} (hx:den V (.raw (.slice none 0 0))=some x) :
 ∃ V',V.ext lab V'/\den V' (.buf lab)=some x/\aD w0 M V' (eQ T lab { val:=.buf lab,new:=[.eH [] el] }) w:=by
 simp only [den,aV] at hx
 subst hx
 have bT:=bA.cC hf lab (dF _) (by omega) (.slice none 0 0)
 refine ⟨V.aZ lab (.slice none 0 0),bT,by simp [den,bA.aZ],?_⟩
 refine hT.step (N:=fun m=>if m=lab then some (.eH [] el) else none) bT.1 (fun m C hm=>?_) (fun m C hm=>?_) (fun m C q hm hq=>?_) (fun m C m' C' q dJ hm jZ Dl _=>?_) (dF _) (fun _ _ _=>rfl) rfl rfl rfl
 .unfold eQ bK.fA at hm
  simp only [gC,oR] at hm
  by_cases e:m=lab
  .subst e
   left
   rw [aK] at hm
   rw [if_pos rfl];exact hm
  .right
   rw [aH (fun q=>e q.symm)] at hm
   exact ⟨if_neg e,hm⟩
 .split at hm
  .rename_i e
   subst e
   cases hm
   exact ⟨[],rfl,.slice none 0 0,by simp [bA.aZ],World.ownsRow_nil w 0 el 2⟩
  .cases hm
 .split at hm
  .rename_i e
   subst e
   cases hm
   simp [SB.aT,bA.aZ,Value.ownBlock] at hq
  .cases hm
 .split at hm
  .rename_i e
   split at jZ
   .rename_i e'
    exact absurd (e.trans e'.symm) dJ
   .cases jZ
  .cases hm
theorem aD.aNl (hT:aD w0 M V T w) (hf:V.fresh lab) {l l2 i:Nat} {cs:List SV} {ty el:TypeId} {xs:List (Int × Int)} (hl:T l=some (.own cs ty)) (hc:cs[i]?=some (.buf l2)) (vJ:T l2=some (.eH xs el)) (cL:l<lab) (aWl:l2<lab) (v:SV) :
 ∃ V',V.ext lab V'/\aD w0 M V' (eQ T lab { val:=v,new:=[.eH xs el],wr:=[(l,.own (cs.set i (.buf lab)) ty),(l2,.gone)] }) w:=by
 obtain ⟨us,hu,b,hβ,hh⟩:=hT.ok l _ hl
 obtain ⟨ps,hps,u,hσ,bQ⟩:=hT.ok l2 _ vJ
 cases hps
 have hu:aI V cs=some us:=hu
 have dJ:l≠l2:=fun e=>by subst e;rw [hl] at vJ;cases vJ
 have bT:=bA.cC hf lab (dF _) (by omega) u
 have e1:(V.aZ lab u).σ lab=some u:=by simp [bA.aZ]
 have nX:aI (V.aZ lab u) (cs.set i (.buf lab))=some us:=by
  have fO:aI (V.aZ lab u) cs=some us:=cS bT.1 hu
  obtain ⟨x,mJ,Fi⟩:=dO fO i _ hc
  simp only [den,bT.1.2 _ _ hσ,aV] at Fi
  exact nQ (by rw [<- Fi];simp [den,e1]) cs us i fO mJ
 refine ⟨_,bT,?_⟩
 refine hT.step (N:=fun m=>if m=lab then some (.eH xs el) else if m=l then some (.own (cs.set i (.buf lab)) ty) else if m=l2 then some .gone else none) bT.1 (fun m C hm=>?_) (fun m C hm=>?_) (fun m C q hm hq=>?_) (fun m C m' C' q zO hm jZ Dl hq=>?_) (dF _) (fun _ _ _=>rfl) rfl rfl rfl
 .unfold eQ bK.fA at hm
  simp only [gC,List.cons_append,oR] at hm
  by_cases k1:m=l
  .subst k1
   left
   rw [aK] at hm
   rw [if_neg (by omega),if_pos rfl];exact hm
  .rw [aH (fun q=>k1 q.symm)] at hm
   by_cases k2:m=l2
   .subst k2
    left
    rw [aK] at hm
    rw [if_neg (by omega),if_neg k1,if_pos rfl];exact hm
   .rw [aH (fun q=>k2 q.symm)] at hm
    by_cases k3:m=lab
    .subst k3
     left
     rw [aK] at hm
     rw [if_pos rfl];exact hm
    .right
     rw [aH (fun q=>k3 q.symm)] at hm
     exact ⟨by rw [if_neg k3,if_neg k1,if_neg k2],hm⟩
 .split at hm
  .rename_i e
   subst e
   cases hm
   exact ⟨_,rfl,u,e1,bQ⟩
  .split at hm
   .rename_i e
    subst e
    cases hm
    exact ⟨us,nX,b,bT.1.1 _ _ hβ,hh⟩
   .split at hm
    .cases hm;exact ⟨[],rfl,trivial⟩
    .cases hm
 .right;left
  split at hm
  .rename_i e
   subst e
   cases hm
   simp only [SB.aT,e1,mZ] at hq
   exact ⟨l2,_,vJ,rfl,by simp [SB.aT,hσ,hq],by rw [if_neg (by omega),if_neg (fun q=>dJ q.symm),if_pos rfl];simp⟩
  .split at hm
   .rename_i e0 e
    subst e
    cases hm
    simp only [SB.aT,bT.1.1 _ _ hβ,gQ,aV] at hq
    exact ⟨m,_,hl,rfl,by simp [SB.aT,hβ,hq],by rw [if_neg e0,if_pos rfl];simp⟩
   .split at hm
    .cases hm;cases hq
    .cases hm
 .intro YU
  have k1:∀ q,(SB.eH xs el).aT (V.aZ lab u) lab=some q->(SB.eH xs el).aT V l2=some q:=fun q h=>by
   simp only [SB.aT,e1,mZ] at h;simp [SB.aT,hσ,h]
  have k2:∀ q,(SB.own (cs.set i (.buf lab)) ty).aT (V.aZ lab u) l=some q->(SB.own cs ty).aT V l=some q:=fun q h=>by
   simp only [SB.aT,bT.1.1 _ _ hβ,gQ,aV] at h;simp [SB.aT,hβ,h]
  split at hm
  .rename_i e
   subst e
   cases hm
   split at jZ
   .rename_i e';exact zO e'.symm
   .split at jZ
    .rename_i e';subst e';cases jZ
     exact hT.jI l2 _ m' _ q (fun e=>dJ e.symm) vJ hl rfl (k1 q hq) (k2 q YU)
    .split at jZ
     .cases jZ;cases YU
     .cases jZ
  .split at hm
   .rename_i e0 e
    subst e
    cases hm
    split at jZ
    .rename_i e';subst e';cases jZ
     exact hT.jI m _ l2 _ q dJ hl vJ rfl (k2 q hq) (k1 q YU)
    .split at jZ
     .rename_i e';exact zO e'.symm
     .split at jZ
      .cases jZ;cases YU
      .cases jZ
   .split at hm
    .cases hm;cases Dl
    .cases hm
end
inductive Cl where
 | cell (t i m:Nat)
 | tmp (t m:Nat)
 | buf (t:Nat) (k:IntKind)
 | nil (t i:Nat) (k:IntKind) (el:TypeId)
 | ZF (t:Nat)
 | aBj (t i sz:Nat) (el:TypeId)
 | aBk (t sz:Nat) (el:TypeId)
 | aBl (t:Nat) (el:TypeId)
 | mvb (l i:Nat)
 | CG (t i:Nat) (el:TypeId)
noncomputable def eC (F0 N:Nat) (B:bB) (c:Cl) (s:St):Option St:=match c with
 | .cell t i m=>match s.g.get t with
   | some (.ptr lb true 0)=>match s.T B lb with
     | some (.own cs ty)=>match cs[i]? with
       | some (.aG l true 0 n cap)=>match s.T B l with
         | some (.own cells el)=>match Nat.beq cells.length cap&&(Nat.ble m cap&&(!Nat.beq l lb&&Nat.ble cap 1000000)) with
           | true=>s.step F0 N none { val:=.raw undef,new:=[.row 1 (cells.take m) el],wr:=[(l,.gone),(lb,.own (cs.set i (.dD s.nx 0 n 0)) ty)] } s.nx (s.nx+8)
           | false=>none
         | _=>none
       | some (.raw (.slice none 0 0))=>some s
       | _=>none
     | _=>none
   | _=>none
 | .tmp t m=>match s.g.get t with
   | some (.aG l true 0 n cap)=>match s.T B l with
     | some (.own cells el)=>match Nat.beq cells.length cap&&(Nat.ble m cap&&Nat.ble cap 1000000) with
       | true=>s.step F0 N (some t) { val:=.dD s.nx 0 n 0,new:=[.row 1 (cells.take m) el],wr:=[(l,.gone)] } s.nx (s.nx+8)
       | false=>none
     | _=>none
   | _=>none
 | .buf t k=>match s.g.get t with
   | some (.aG l true 0 n cap)=>match s.T B l with
     | some (.own cells el)=>match Nat.beq cells.length cap&&(Nat.ble n cap&&(Nat.ble cap 1000000&&(cR k cells).isSome)),cR k (cells.take n) with
       | true,some ns=>s.step F0 N (some t) { val:=.buf s.nx,new:=[.dL k ns el],wr:=[(l,.gone)] } s.nx (s.nx+8)
       | _,_=>none
     | _=>none
   | _=>none
 | .nil t i k el=>match s.g.get t with
   | some (.ptr lb true 0)=>match s.T B lb with
     | some (.own cs ty)=>match cs[i]? with
       | some (.raw (.slice none 0 0))=>s.step F0 N none { val:=.raw undef,new:=[.dL k [] el],wr:=[(lb,.own (cs.set i (.buf s.nx)) ty)] } s.nx (s.nx+8)
       | some (.buf _)=>some s
       | _=>none
     | _=>none
   | _=>none
 | .ZF t=>match s.g.get t with
   | some (.iA l n)=>match s.T B l with
     | some (.iT k xs)=>s.step F0 N (some t) { val:=.iA s.nx n,new:=[.iT k xs] } s.nx (s.nx+8)
     | _=>none
   | _=>none
 | .aBj t i sz el=>match s.g.get t with
   | some (.ptr lb true 0)=>match s.T B lb with
     | some (.own cs ty)=>match cs[i]? with
       | some (.raw (.slice none 0 0))=>s.step F0 N none { val:=.raw undef,new:=[.fM sz 0 el],wr:=[(lb,.own (cs.set i (.buf s.nx)) ty)] } s.nx (s.nx+8)
       | some (.buf _)=>some s
       | _=>none
     | _=>none
   | _=>none
 | .aBk t sz el=>match s.g.get t with
   | some (.raw (.slice none 0 0))=>s.step F0 N (some t) { val:=.buf s.nx,new:=[.fM sz 0 el] } s.nx (s.nx+8)
   | some (.buf _)=>some s
   | _=>none
 | .aBl t el=>match s.g.get t with
   | some (.raw (.slice none 0 0))=>s.step F0 N (some t) { val:=.buf s.nx,new:=[.eH [] el] } s.nx (s.nx+8)
   | some (.buf _)=>some s
   | _=>none
 | .mvb l i=>match s.T B l with
   | some (.own cs ty)=>match cs[i]? with
     | some (.buf l2)=>match s.T B l2,Nat.blt l s.nx&&Nat.blt l2 s.nx with
       | some (.eH xs el),true=>s.step F0 N none { val:=.raw undef,new:=[.eH xs el],wr:=[(l,.own (cs.set i (.buf s.nx)) ty),(l2,.gone)] } s.nx (s.nx+8)
       | _,_=>none
     | _=>none
   | _=>none
 | .CG t i el=>match s.g.get t with
   | some (.ptr lb true 0)=>match s.T B lb with
     | some (.own cs ty)=>match cs[i]? with
       | some (.raw (.slice none 0 0))=>s.step F0 N none { val:=.raw undef,new:=[.eH [] el],wr:=[(lb,.own (cs.set i (.buf s.nx)) ty)] } s.nx (s.nx+8)
       | some (.buf _)=>some s
       | _=>none
     | _=>none
   | _=>none
noncomputable def jM (F0 N:Nat) (B:bB):List Cl->St->Option St
 | [],s=>some s
 | c::r,s=>match eC F0 N B c s with
   | some s=>jM F0 N B r s
   | none=>none
section
variable {P:Program} {Γ:Env} {w0:World} {M:Nat->Prop} {B:bB} {N F0:Nat} {V0:bA}
theorem Inv.eC {c:Cl} {s s':St} (h:eC F0 N B c s=some s') {V:bA} {a:Act} {w:World} (hi:Inv P Γ w0 M B N F0 V0 s V a w):(∃ V',Inv P Γ w0 M B N F0 V0 s' V' a w)/\s'.ob=s.ob:=by
 cases c with
 | cell t i m=>
   simp only [Sx.eC] at h
   split at h
   case h_2=>cases h
   rename_i lb _
   split at h
   case h_2=>cases h
   rename_i cs ty hb
   split at h
   case h_3=>cases h
   .rename_i l n cap hc
    split at h
    case h_2=>cases h
    rename_i cells el hl
    split at h
    case h_2=>cases h
    rename_i jT
    simp only [iG,Bool.not_eq_true'] at jT
    obtain ⟨k1,k2,k3,k4⟩:=jT
    obtain ⟨V',hV,hT⟩:=aD.close hi.fA hi.top.fresh hi.hi hl (cM k1) (kJ k2) (kJ k4) hb hc (fun e=>by subst e;rw [Nat.beq_refl] at k3;cases k3) (.raw undef)
    refine ⟨⟨V',?_⟩,(St.dM B h).2.2.1⟩
    exact hi.step (x:=undef) h (dF _) (dF _) hV (fun h=>by cases h) hT
   .cases h;exact ⟨⟨V,hi⟩,rfl⟩
 | tmp t m=>
   simp only [Sx.eC] at h
   split at h
   case h_2=>cases h
   rename_i l n cap ht
   split at h
   case h_2=>cases h
   rename_i cells el hl
   split at h
   case h_2=>cases h
   rename_i jT
   simp only [iG] at jT
   obtain ⟨k1,k2,k4⟩:=jT
   obtain ⟨V',hV,hx,hT⟩:=aD.aIq hi.fA hi.top.fresh hi.hi hl (cM k1) (kJ k2) (kJ k4) (hi.tmp t _ ht)
   have:=hi.step (x:=a.eval (.tmp t)) h (dF _) (dF _) hV (fun _=>hx) hT
   rw [Act.pT] at this
   exact ⟨⟨V',this⟩,(St.dM B h).2.2.1⟩
 | buf t k=>
   simp only [Sx.eC] at h
   split at h
   case h_2=>cases h
   rename_i l n cap ht
   split at h
   case h_2=>cases h
   rename_i cells el hl
   split at h
   case h_2=>cases h
   rename_i ns jT hk
   simp only [iG] at jT
   obtain ⟨k1,k2,k4,k5⟩:=jT
   obtain ⟨V',hV,hx,hT⟩:=aD.aIr hi.fA hi.top.fresh hi.hi hl (cM k1) (kJ k2) (kJ k4) hk k5 (hi.tmp t _ ht)
   have:=hi.step (x:=a.eval (.tmp t)) h (dF _) (dF _) hV (fun _=>hx) hT
   rw [Act.pT] at this
   exact ⟨⟨V',this⟩,(St.dM B h).2.2.1⟩
 | nil t i k el=>
   simp only [Sx.eC] at h
   split at h
   case h_2=>cases h
   rename_i lb _
   split at h
   case h_2=>cases h
   rename_i cs ty hb
   split at h
   case h_3=>cases h
   .rename_i hc
    obtain ⟨V',hV,hT⟩:=aD.aRp (k0:=k) (el:=el) hi.fA hi.top.fresh hi.hi hb hc (.raw undef)
    exact ⟨⟨V',hi.step (x:=undef) h (dF _) (dF _) hV (fun h=>by cases h) hT⟩,(St.dM B h).2.2.1⟩
   .cases h;exact ⟨⟨V,hi⟩,rfl⟩
 | ZF t=>
   simp only [Sx.eC] at h
   split at h
   case h_2=>cases h
   rename_i l n ht
   split at h
   case h_2=>cases h
   rename_i k xs hl
   obtain ⟨V',hV,hx,hT⟩:=aD.aJa hi.fA hi.top.fresh hl (hi.tmp t _ ht)
   have:=hi.step (x:=a.eval (.tmp t)) h (dF _) (dF _) hV (fun _=>hx) hT
   rw [Act.pT] at this
   exact ⟨⟨V',this⟩,(St.dM B h).2.2.1⟩
 | aBj t i sz el=>
   simp only [Sx.eC] at h
   split at h
   case h_2=>cases h
   rename_i lb _
   split at h
   case h_2=>cases h
   rename_i cs ty hb
   split at h
   case h_3=>cases h
   .rename_i hc
    obtain ⟨V',hV,hT⟩:=aD.aBm (sz:=sz) (el:=el) hi.fA hi.top.fresh hi.hi hb hc (.raw undef)
    exact ⟨⟨V',hi.step (x:=undef) h (dF _) (dF _) hV (fun h=>by cases h) hT⟩,(St.dM B h).2.2.1⟩
   .cases h;exact ⟨⟨V,hi⟩,rfl⟩
 | aBk t sz el=>
   simp only [Sx.eC] at h
   split at h
   case h_3=>cases h
   .rename_i ht
    obtain ⟨V',hV,hx,hT⟩:=aD.aRo (sz:=sz) (el:=el) hi.fA hi.top.fresh (hi.tmp t _ ht)
    have:=hi.step (x:=a.eval (.tmp t)) h (dF _) (dF _) hV (fun _=>hx) hT
    rw [Act.pT] at this
    exact ⟨⟨V',this⟩,(St.dM B h).2.2.1⟩
   .cases h;exact ⟨⟨V,hi⟩,rfl⟩
 | aBl t el=>
   simp only [Sx.eC] at h
   split at h
   case h_3=>cases h
   .rename_i ht
    obtain ⟨V',hV,hx,hT⟩:=aD.aNe (el:=el) hi.fA hi.top.fresh (hi.tmp t _ ht)
    have:=hi.step (x:=a.eval (.tmp t)) h (dF _) (dF _) hV (fun _=>hx) hT
    rw [Act.pT] at this
    exact ⟨⟨V',this⟩,(St.dM B h).2.2.1⟩
   .cases h;exact ⟨⟨V,hi⟩,rfl⟩
 | mvb l i=>
   simp only [Sx.eC] at h
   split at h
   case h_2=>cases h
   rename_i cs ty hl
   split at h
   case h_2=>cases h
   rename_i l2 hc
   split at h
   case h_2=>cases h
   rename_i xs el vJ cL
   simp only [iG,Nat.blt_eq] at cL
   obtain ⟨V',hV,hT⟩:=aD.aNl hi.fA hi.top.fresh hl hc vJ cL.1 cL.2 (.raw undef)
   exact ⟨⟨V',hi.step (x:=undef) h (dF _) (dF _) hV (fun h=>by cases h) hT⟩,(St.dM B h).2.2.1⟩
 | CG t i el=>
   simp only [Sx.eC] at h
   split at h
   case h_2=>cases h
   rename_i lb _
   split at h
   case h_2=>cases h
   rename_i cs ty hb
   split at h
   case h_3=>cases h
   .rename_i hc
    obtain ⟨V',hV,hT⟩:=aD.aNf (el:=el) hi.fA hi.top.fresh hi.hi hb hc (.raw undef)
    exact ⟨⟨V',hi.step (x:=undef) h (dF _) (dF _) hV (fun h=>by cases h) hT⟩,(St.dM B h).2.2.1⟩
   .cases h;exact ⟨⟨V,hi⟩,rfl⟩
theorem Inv.jM:∀ {cl:List Cl} {s s':St},jM F0 N B cl s=some s'->∀ {V:bA} {a:Act} {w:World},Inv P Γ w0 M B N F0 V0 s V a w->(∃ V',Inv P Γ w0 M B N F0 V0 s' V' a w)
 | [],s,s',h,V,a,w,hi=>by simp only [Sx.jM,aV] at h;subst h;exact ⟨V,hi⟩
 | c::r,s,s',h,V,a,w,hi=>by
   simp only [Sx.jM] at h
   split at h
   .rename_i s1 h1
    obtain ⟨⟨V1,Uq⟩,e⟩:=hi.eC h1
    exact Inv.jM h Uq
   .cases h
theorem Yh {c:Cl} {s s':St} (h:eC F0 N B c s=some s'):s'.ob=s.ob:=by
 cases c with
 | cell t i m=>
   simp only [Sx.eC] at h
   split at h
   case h_2=>cases h
   split at h
   case h_2=>cases h
   split at h
   case h_3=>cases h
   .split at h
    case h_2=>cases h
    split at h
    case h_2=>cases h
    exact (St.dM B h).2.2.1
   .cases h;rfl
 | tmp t m=>
   simp only [Sx.eC] at h
   split at h
   case h_2=>cases h
   split at h
   case h_2=>cases h
   split at h
   case h_2=>cases h
   exact (St.dM B h).2.2.1
 | buf t k=>
   simp only [Sx.eC] at h
   split at h
   case h_2=>cases h
   split at h
   case h_2=>cases h
   split at h
   case h_2=>cases h
   exact (St.dM B h).2.2.1
 | nil t i k el=>
   simp only [Sx.eC] at h
   split at h
   case h_2=>cases h
   split at h
   case h_2=>cases h
   split at h
   case h_3=>cases h
   .exact (St.dM B h).2.2.1
   .cases h;rfl
 | ZF t=>
   simp only [Sx.eC] at h
   split at h
   case h_2=>cases h
   split at h
   case h_2=>cases h
   exact (St.dM B h).2.2.1
 | aBj t i sz el=>
   simp only [Sx.eC] at h
   split at h
   case h_2=>cases h
   split at h
   case h_2=>cases h
   split at h
   case h_3=>cases h
   .exact (St.dM B h).2.2.1
   .cases h;rfl
 | aBk t sz el=>
   simp only [Sx.eC] at h
   split at h
   case h_3=>cases h
   .exact (St.dM B h).2.2.1
   .cases h;rfl
 | aBl t el=>
   simp only [Sx.eC] at h
   split at h
   case h_3=>cases h
   .exact (St.dM B h).2.2.1
   .cases h;rfl
 | mvb l i=>
   simp only [Sx.eC] at h
   split at h
   case h_2=>cases h
   split at h
   case h_2=>cases h
   split at h
   case h_2=>cases h
   exact (St.dM B h).2.2.1
 | CG t i el=>
   simp only [Sx.eC] at h
   split at h
   case h_2=>cases h
   split at h
   case h_2=>cases h
   split at h
   case h_3=>cases h
   .exact (St.dM B h).2.2.1
   .cases h;rfl
theorem wJ:∀ {cl:List Cl} {s s':St},jM F0 N B cl s=some s'->s'.ob=s.ob
 | [],s,s',h=>by simp only [Sx.jM,aV] at h;subst h;rfl
 | c::r,s,s',h=>by
   simp only [Sx.jM] at h
   split at h
   .rename_i s1 h1
    rw [wJ h,Yh h1]
   .cases h
noncomputable def xP (Γ:Env) (T:bB) (lab F:Nat) (fn:Func) (cl:List Cl) (r:Option qH):Option bK:=match r with
 | some r=>match r.cf,r.fr with
   | .at x,[]=>match jM F fn.ntmps (bI F T) cl r.st with
     | some s=>Iz Γ T lab F fn x s
     | none=>none
   | _,_=>none
 | none=>none
theorem G.sX (aW:cA P Γ) (aY:cH P Γ) (iQ:P.follows .mixedOrders=true) {T:bB} {lab:Nat} {fn:Func} {e e':bK} {cl:List Cl} {stops:List Nat} {lf n:Nat} {cf:Cf} {K:List Fr} {s:St} (hs:List Bool) {Q:Exit->Act->World->Prop}
 (H:∀ x s e',Iz Γ T lab F0 fn x s=some e'->(∀ q∈e'.bO,q)->e'.val=e.val->e'.new=e.new->e'.wr=e.wr->G P Γ w0 M (bI F0 T) fn.ntmps F0 V0 (.at x) [] s Q)
 (h:xP Γ T lab F0 fn cl (gV Γ (bI F0 T) F0 fn.ntmps stops lf n cf K (s.hint hs))=some e') (hp:∀ q∈e'.bO,q) (h1:e'.val=e.val) (h2:e'.new=e.new) (h3:e'.wr=e.wr) :
 G P Γ w0 M (bI F0 T) fn.ntmps F0 V0 cf K s Q:=by
 unfold xP at h
 split at h
 case h_2=>cases h
 rename_i r hr
 split at h
 case h_2=>cases h
 rename_i x hx hf
 split at h
 case h_2=>cases h
 rename_i s1 Mp
 have dY:G P Γ w0 M (bI F0 T) fn.ntmps F0 V0 cf K (s.hint hs) Q:=by
  refine G.run aW aY iQ hr (fun q hq=>hp q (Ty h q (by rw [wJ Mp];exact hq))) ?_
  rw [hx,hf]
  intro V a w hi
  obtain ⟨V',fP⟩:=hi.jM Mp
  exact H x s1 e' h hp h1 h2 h3 V' a w fP
 intro V a w hi
 exact dY V a w (hi.hints s.ob hs)
noncomputable def hZ (F0 N:Nat) (B:bB) (cl:List Cl) (gs:List (Nat × SV)) (tb:List (Nat × SB)) (nx:Nat) (ws:List Nat) (df:List SV) (r:Option qH):Option (Cf × List Fr × List Prop):=match r with
 | some r=>match jM F0 N B cl r.st with
   | some s=>xD F0 B [] gs tb nx ws df (some ⟨r.cf,r.fr,s⟩)
   | none=>none
 | none=>none
theorem G.hZ (aW:cA P Γ) (aY:cH P Γ) (iQ:P.follows .mixedOrders=true) (hb:oZ Γ B F0 V0) {stops:List Nat} {lf n:Nat} {cf Yw:Cf} {K K':List Fr} {s:St} (hs:List Bool) {cl:List Cl} {gs:List (Nat × SV)} {tb:List (Nat × SB)} {nx:Nat} {ws:List Nat} {df:List SV} {ps:List Prop} {Q:Exit->Act->World->Prop}
 (h:hZ F0 N B cl gs tb nx ws df (gV Γ B F0 N stops lf n cf K (s.hint hs))=some (Yw,K',ps)) (hp:∀ q∈ps,q) (hG:G P Γ w0 M B N F0 V0 Yw K' (cG gs tb nx ws df) Q):G P Γ w0 M B N F0 V0 cf K s Q:=by
 unfold Sx.hZ at h
 split at h
 case h_2=>cases h
 rename_i r hr
 split at h
 case h_2=>cases h
 rename_i s1 h1
 have ob:=wJ h1
 have h0:Sx.xD F0 B [] gs tb nx ws df (gV Γ B F0 N stops lf 0 r.cf r.fr (s1.hint s1.hs))=some (Yw,K',ps):=h
 have dY:G P Γ w0 M B N F0 V0 cf K (s.hint hs) Q:=by
  refine G.run aW aY iQ hr (fun q hq=>?_) ?_
  .refine hp q ?_
   have hq:q∈s1.ob:=by rw [ob];exact hq
   unfold Sx.xD at h
   simp only at h
   unfold Sx.toN at h
   simp only [nL] at h
   unfold MG at h
   simp only at h
   split at h
   case h_2=>cases h
   split at h
   case h_2=>cases h
   cases h
   exact List.mem_append_left _ hq
  .intro V a w hi
   obtain ⟨V',fP⟩:=hi.jM h1
   exact G.xD aW aY iQ hb s1.hs h0 hp hG V' a w fP
 intro V a w hi
 exact dY V a w (hi.hints s.ob hs)
theorem G.pN (aW:cA P Γ) (aY:cH P Γ) (iQ:P.follows .mixedOrders=true) (hb:oZ Γ B F0 V0) {stops:List Nat} {lf n:Nat} {cf:Cf} {K1 K:List Fr} {s:St} (hs:List Bool) {cl:List Cl} {gs:List (Nat × SV)} {tb:List (Nat × SB)} {nx:Nat} {ws:List Nat} {df:List SV} {ps:List Prop} {Q:Exit->Act->World->Prop} {S:Nat->St->Prop} {r:Nat}
 (h:Sx.hZ F0 N B cl gs tb nx ws df (gV Γ B F0 N stops lf n cf K1 (s.hint hs))=some (.at .normal,[],ps)) (hp:∀ q∈ps,q) (r':Nat) (cL:r'<r) (hS:S r' (cG gs tb nx ws df)) :
 G P Γ w0 M B N F0 V0 cf K1 s (Exit.then (fun a w=>∃ r',r'<r/\∃ s',S r' s'/\∃ V,Inv P Γ w0 M B N F0 V0 s' V a w) (KQ P K Q)):=
 G.hZ aW aY iQ hb hs h hp (G.again fun V _ _ hi=>⟨r',cL,_,hS,V,hi⟩)
end
theorem aE.bC {P:Program} {Γ:Env} {f:FuncId} {vs:List SV} {T:bB} {lab F:Nat} {e:bK} (h:aE P Γ f vs T lab F e) (l:Nat) (B:SB) (hT:T l=some B) (hl:l<lab) :
 aE P Γ f vs T lab F { e with wr:=e.wr++[(l,B)] }:=by
 intro w0 M V T2 w xs aO Fv hg hf hF hx o a K Q hK
 refine h w0 M V T2 w xs aO Fv hg hf hF hx o a K Q fun V' x w' h1 h2 h3=>hK V' x w' h1 h2 ?_
 have:eQ T2 lab { e with wr:=e.wr++[(l,B)] }=eQ T2 lab e:=by
  funext k
  simp only [eQ,bK.fA,cB,List.append_assoc]
  cases hk:look k e.wr with
  | some b=>rfl
  | none=>
    simp only
    by_cases e1:l=k
    .subst e1
     rw [aK]
     simp only
     rw [eW,if_neg (by omega)]
     exact (aO l B hT).symm
    .rw [aH e1]
     simp only [look]
 rw [this]
 exact h3
section
variable {w0 w:World} {M:Nat->Prop} {V:bA} {T:bB} {lab:Nat}
theorem wI (V:bA) (k:IntKind):∀ xs:List Int,aI V (xs.map (SV.int false k))=some (xs.map (Value.int k))
 | []=>rfl
 | x::xs=>by simp [aI,den,wI V k xs]
theorem aD.opened (h:aD w0 M V T w) (hf:V.fresh lab) (lN:∀ k,lab<=k->T k=none) {l:Nat} {k:IntKind} {xs:List Int} {el:TypeId} (hl:T l=some (.dL k xs el)) (Vf:0<xs.length) {lb:Nat} {cs:List SV} {ty:TypeId} {i:Nat}
 (hb:T lb=some (.own cs ty)) (hi:cs[i]?=some (.buf l)) (dJ:l≠lb) (v:SV) :
 ∃ V',V.ext lab V'/\aD w0 M V' (eQ T lab { val:=v,new:=[.row 1 (xs.map (SV.int false k)) el],wr:=[(l,.gone),(lb,.own (cs.set i (.dD lab 0 xs.length 0)) ty)] }) w:=by
 obtain ⟨us,Dj,u,hσ,bQ⟩:=h.ok l _ hl
 obtain ⟨ys,pE,b2,lM,NT⟩:=h.ok lb _ hb
 cases Dj
 rcases bQ.1.2 with ⟨_,h0⟩ | ⟨b,cap,cur,rfl,_,hh,hle,rM,nU,dK⟩
 .omega
 have cL:l<lab:=Nat.lt_of_not_le fun q=>by rw [lN l q] at hl;cases hl
 have PG:lb<lab:=Nat.lt_of_not_le fun q=>by rw [lN lb q] at hb;cases hb
 have bT:V.ext lab ((V.put lab (b,0)).aZ lab (.int .i64 (cap:Nat))):=by
  have h1:=bA.kQ hf lab (dF _) (by omega) (b,0)
  refine ⟨⟨fun k p hp=>h1.1.1 k p hp,fun k p hp=>?_⟩,fun k hk=>⟨(h1.2 k hk).1,?_⟩⟩
  .simp only [bA.aZ]
   by_cases e:k=lab
   .subst e;rw [(hf k (dF _) (by omega)).2] at hp;cases hp
   .rw [if_neg e];exact hp
  .simp only [bA.aZ]
   rw [if_neg (by omega)]
   rfl
 refine ⟨_,bT,?_⟩
 obtain ⟨V',Mf⟩:∃ V',V'=(V.put lab (b,0)).aZ lab (.int .i64 (cap:Nat)):=⟨_,rfl⟩
 rw [<- Mf] at bT |-
 have e1:V'.β lab=some (b,0):=by rw [Mf];simp [bA.put,bA.aZ]
 have e2:V'.σ lab=some (.int .i64 (cap:Nat)):=by rw [Mf];simp [bA.aZ]
 have Yu:SB.aT V l (.dL k xs el)=some b:=by simp [SB.aT,hσ,Value.ownBlock]
 have Zo:b≠b2:=by
  intro e
  exact h.jI l _ lb _ b dJ hl hb rfl Yu (by simp [SB.aT,lM,e])
 have nX:aI V' (cs.set i (.dD lab 0 xs.length 0))=some ys:=by
  have fO:aI V' cs=some ys:=cS bT.1 pE
  obtain ⟨x,mJ,Fi⟩:=dO fO i _ hi
  simp only [den,bT.1.2 _ _ hσ,aV] at Fi
  refine nQ ?_ cs ys i fO mJ
  rw [<- Fi]
  simp [den,e1,e2,pM]
 refine h.step (N:=fun q=>if q=lab then some (.row 1 (xs.map (SV.int false k)) el) else if q=l then some .gone else if q=lb then some (.own (cs.set i (.dD lab 0 xs.length 0)) ty) else none) bT.1 (fun q C hk=>?_) (fun q C hk=>?_) (fun q C p hk hp=>?_) (fun q C q' C' p zO hk iH ho hp=>?_) (dF _) (fun _ _ _=>rfl) rfl rfl rfl
 .simp only [eQ,bK.fA,gC,List.cons_append,oR] at hk
  by_cases k1:l=q
  .subst k1
   rw [aK] at hk
   left
   simp only [if_neg (show ¬ l=lab by omega),if_true]
   simpa using hk
  .rw [aH k1] at hk
   by_cases k2:lb=q
   .subst k2
    rw [aK] at hk
    left
    simp only [if_neg (show ¬ lb=lab by omega),if_neg (fun q=>dJ (Eq.symm q)),if_true]
    simpa using hk
   .rw [aH k2] at hk
    by_cases k3:lab=q
    .subst k3;rw [aK] at hk;left;simpa using hk
    .rw [aH k3] at hk
     right
     simp only [look] at hk
     exact ⟨by rw [if_neg (fun q=>k3 q.symm),if_neg (fun q=>k1 q.symm),if_neg (fun q=>k2 q.symm)],hk⟩
 .by_cases k1:q=lab
  .rw [if_pos k1] at hk
   cases hk
   subst k1
   refine ⟨xs.map (Value.int k),wI V' k xs,b,cap,cur,e1,e2,hh,rM,nU,⟨xs.length,by simp,hle⟩,?_⟩
   rw [List.length_map]
   rw [Nat.mul_one] at dK
   exact dK
  .rw [if_neg k1] at hk
   by_cases k2:q=l
   .rw [if_pos k2] at hk;cases hk;exact ⟨[],rfl,trivial⟩
   .rw [if_neg k2] at hk
    by_cases k3:q=lb
    .rw [if_pos k3] at hk
     cases hk
     subst k3
     exact ⟨ys,nX,b2,bT.1.1 _ _ lM,NT⟩
    .rw [if_neg k3] at hk;cases hk
 .by_cases k1:q=lab
  .rw [if_pos k1] at hk
   cases hk
   subst k1
   simp only [SB.aT,e1,gQ,aV] at hp
   subst hp
   right;left
   exact ⟨l,_,hl,rfl,Yu,by simp [if_neg (show ¬ l=q by omega)]⟩
  .rw [if_neg k1] at hk
   by_cases k2:q=l
   .rw [if_pos k2] at hk;cases hk;cases hp
   .rw [if_neg k2] at hk
    by_cases k3:q=lb
    .rw [if_pos k3] at hk
     cases hk
     subst k3
     simp only [SB.aT,bT.1.1 _ _ lM,gQ,aV] at hp
     subst hp
     right;left
     exact ⟨q,_,hb,rfl,by simp [SB.aT,lM],by simp [if_neg k1,if_neg k2]⟩
    .rw [if_neg k3] at hk;cases hk
 .have aT:∀ q C p,(if q=lab then some (SB.row 1 (xs.map (SV.int false k)) el) else if q=l then some .gone else if q=lb then some (.own (cs.set i (.dD lab 0 xs.length 0)) ty) else none)=some C->C.aT V' q=some p->(q=lab/\p=b)\/(q=lb/\p=b2):=by
   intro q C p hk hp
   by_cases k1:q=lab
   .rw [if_pos k1] at hk
    cases hk
    subst k1
    simp only [SB.aT,e1,gQ,aV] at hp
    exact .inl ⟨rfl,hp.symm⟩
   .rw [if_neg k1] at hk
    by_cases k2:q=l
    .rw [if_pos k2] at hk;cases hk;cases hp
    .rw [if_neg k2] at hk
     by_cases k3:q=lb
     .rw [if_pos k3] at hk
      cases hk
      subst k3
      simp only [SB.aT,bT.1.1 _ _ lM,gQ,aV] at hp
      exact .inr ⟨rfl,hp.symm⟩
     .rw [if_neg k3] at hk;cases hk
  intro Uo
  rcases aT q C p hk hp with ⟨r1,r2⟩ | ⟨r1,r2⟩ <;> rcases aT q' C' p iH Uo with ⟨r3,r4⟩ | ⟨r3,r4⟩
  .omega
  .exact Zo (r2.symm.trans r4)
  .exact Zo (r4.symm.trans r2)
  .omega
end
noncomputable def Jr (F0 N:Nat) (B:bB) (t i:Nat) (s:St):Option St:=match s.g.get t with
 | some (.ptr lb true 0)=>match s.T B lb with
   | some (.own cs ty)=>match cs[i]? with
     | some (.buf l)=>match s.T B l with
       | some (.dL k xs el)=>match Nat.blt 0 xs.length && !Nat.beq l lb with
         | true=>s.step F0 N none { val:=.raw undef,new:=[.row 1 (xs.map (SV.int false k)) el],wr:=[(l,.gone),(lb,.own (cs.set i (.dD s.nx 0 xs.length 0)) ty)] } s.nx (s.nx+8)
         | false=>none
       | _=>none
     | _=>none
   | _=>none
 | _=>none
noncomputable def opS (F0 N:Nat) (B:bB) (t i:Nat) (s:St):St:=match Jr F0 N B t i s with
 | some s'=>s'
 | none=>s
section
variable {P:Program} {Γ:Env} {w0:World} {M:Nat->Prop} {B:bB} {N F0:Nat} {V0:bA}
theorem Inv.Jr {t i:Nat} {s s':St} (h:Jr F0 N B t i s=some s') {V:bA} {a:Act} {w:World} (hi:Inv P Γ w0 M B N F0 V0 s V a w):∃ V',Inv P Γ w0 M B N F0 V0 s' V' a w:=by
 unfold Sx.Jr at h
 split at h
 case h_2=>cases h
 rename_i lb _
 split at h
 case h_2=>cases h
 rename_i cs ty hb
 split at h
 case h_2=>cases h
 rename_i l hc
 split at h
 case h_2=>cases h
 rename_i k xs el hl
 split at h
 case h_2=>cases h
 rename_i jT
 simp only [iG,Bool.not_eq_true'] at jT
 obtain ⟨k1,k2⟩:=jT
 obtain ⟨V',hV,hT⟩:=aD.opened hi.fA hi.top.fresh hi.hi hl (by simpa [Nat.blt_eq] using k1) hb hc (fun e=>by subst e;rw [Nat.beq_refl] at k2;cases k2) (.raw undef)
 exact ⟨V',hi.step (x:=undef) h (dF _) (dF _) hV (fun h=>by cases h) hT⟩
theorem G.op (t i:Nat) {cf:Cf} {K:List Fr} {s:St} {Q:Exit->Act->World->Prop} (hG:G P Γ w0 M B N F0 V0 cf K (opS F0 N B t i s) Q):G P Γ w0 M B N F0 V0 cf K s Q:=by
 intro V a w hi
 unfold opS at hG
 split at hG
 .rename_i s' h
  obtain ⟨V',fP⟩:=hi.Jr h
  exact hG V' a w fP
 .exact hG V a w hi
end
end Go.Proofs.YtnodfocobmghiaaGreatDoor.Sx
section
namespace Go.Proofs.YtnodfocobmghiaaGreatDoor.Sx
end Go.Proofs.YtnodfocobmghiaaGreatDoor.Sx
end
namespace Go.Proofs.YtnodfocobmghiaaGreatDoor.Sx
def dA (n:Nat) (xs:List Int):List Int:=(List.range n).map fun j=>xs.getD j 0
theorem dU {n:Nat} {xs:List Int} (h:xs.length=n):dA n xs=xs:=by
 unfold dA
 apply List.ext_getElem
 .simp [h]
 .intro i h1 h2
  simp [gH,h2]
namespace B
def word (l:List Int) (i:Nat):Int:=jQ .u32 (jQ .u32 (jQ .u32 (IntKind.u32.wrap (l.getD (4*i) 0)) (cZ .u32 (IntKind.u32.wrap (l.getD (4*i+1) 0)) 8)) (cZ .u32 (IntKind.u32.wrap (l.getD (4*i+2) 0)) 16)) (cZ .u32 (IntKind.u32.wrap (l.getD (4*i+3) 0)) 24)
def rot (x k:Int):Int:=jQ .u32 (cZ .u32 x k) (bU .u32 x (32-k))
def qr (v:List Int) (a b c d:Nat):List Int:=
 let v:=v.set a (IntKind.u32.wrap (v.getD a 0+v.getD b 0))
 let v:=v.set d (rot (gW .u32 (v.getD d 0) (v.getD a 0)) 16)
 let v:=v.set c (IntKind.u32.wrap (v.getD c 0+v.getD d 0))
 let v:=v.set b (rot (gW .u32 (v.getD b 0) (v.getD c 0)) 12)
 let v:=v.set a (IntKind.u32.wrap (v.getD a 0+v.getD b 0))
 let v:=v.set d (rot (gW .u32 (v.getD d 0) (v.getD a 0)) 8)
 let v:=v.set c (IntKind.u32.wrap (v.getD c 0+v.getD d 0))
 v.set b (rot (gW .u32 (v.getD b 0) (v.getD c 0)) 7)
def dr (v:List Int):List Int:=
 qr (qr (qr (qr (qr (qr (qr (qr v 0 4 8 12) 1 5 9 13) 2 6 10 14) 3 7 11 15) 0 5 10 15) 1 6 11 12) 2 7 8 13) 3 4 9 14
def rounds (n:Nat) (v:List Int):List Int:=match n with
 | 0=>v
 | n+1=>rounds n (dr v)
def init (key aC:List Int) (ctr:Int):List Int:=[1634760805,857760878,2036477234,1797285236]++(List.range 8).map (word key)++[ctr]++(List.range 3).map (word aC)
def out (v w:List Int):List Int:=(List.range 64).map fun j=>IntKind.u8.wrap (bU .u32 (IntKind.u32.wrap (v.getD (j/4) 0+w.getD (j/4) 0)) (IntKind.i64.wrap (8*(j%4:Nat))))
def block (key aC:List Int) (ctr:Int):List Int:=out (rounds 10 (init key aC ctr)) (init key aC ctr)
end B
def Iq (key aC:List Int) (c:Int) (i:Nat):Int:=(B.block key aC (IntKind.u32.wrap (c+(i/64:Nat)))).getD (i%64) 0
def cE (key aC:List Int) (c:Int) (off n:Nat) (xs:List Int):List Int:=
 (List.range xs.length).map fun m=>if off<=m/\m<off+n then gW .u8 (xs.getD m 0) (Iq key aC c (m-off)) else xs.getD m 0
theorem fN (key aC:List Int) (c:Int) (off n:Nat) (xs:List Int):(cE key aC c off n xs).length=xs.length:=by simp [cE]
theorem vZ (key aC:List Int) (c:Int) (off n:Nat) (xs:List Int) {m:Nat} (h:m<xs.length):(cE key aC c off n xs).getD m 0=if off<=m/\m<off+n then gW .u8 (xs.getD m 0) (Iq key aC c (m-off)) else xs.getD m 0:=by
 simp [cE,gH,h]
theorem Br (key aC:List Int) (c:Int) (off:Nat) (xs:List Int):cE key aC c off 0 xs=xs:=by
 apply List.ext_getElem
 .simp [cE]
 .intro i h1 h2
  have:¬ (off<=i/\i<off+0):=by omega
  simp only [cE,List.getElem_map,List.getElem_range,if_neg this]
  simp [gH,h2]
theorem Pe (key aC:List Int) (c:Int) (off n:Nat) (xs:List Int) (h:off+n<xs.length) :
 (cE key aC c off n xs).set (off+n) (gW .u8 ((cE key aC c off n xs).getD (off+n) 0) (Iq key aC c n))=cE key aC c off (n+1) xs:=by
 apply List.ext_getElem
 .simp [cE]
 .intro i h1 h2
  have hl:i<xs.length:=by simpa [cE] using h2
  rw [List.getElem_set]
  split
  .rename_i e
   subst e
   rw [vZ _ _ _ _ _ _ h,if_neg (by omega)]
   simp only [cE,List.getElem_map,List.getElem_range]
   rw [if_pos (by omega),Nat.add_sub_cancel_left]
  .rename_i e
   simp only [cE,List.getElem_map,List.getElem_range]
   by_cases hc:off<=i/\i<off+n
   .rw [if_pos hc,if_pos (by omega)]
   .rw [if_neg hc,if_neg (by omega)]
def tws:List (Nat × Nat):=[(143,100),(152,99),(168,101),(227,102),(229,104),(232,103)]
def fF (f:Nat):Option Sum:=match Nat.beq f 165 with
 | true=>some (vX false)
 | false=>match Nat.beq f 172 with
   | true=>some (vX true)
   | false=>none
def aA:List (Nat × Nat):=[(3,0),(1,2),(2,4),(0,6),(5,8),(7,10),(8,11),(12,15),(13,16),(14,17),(15,18),(24,27)]
theorem mix:Tryz.prog.follows .mixedOrders=true:=by kernel_rfl
theorem aNc:Tryz.prog.funcs.toList.all (fun fn => !(fn.name == "runtime.NumGoroutine"))=true:=by kernel_rfl
theorem names (f:Nat) (fn:Func) (h:Tryz.prog.funcs[f]?=some fn):(fn.name == "runtime.NumGoroutine")=false:=by
 have hm:fn∈Tryz.prog.funcs.toList:=by
  have:=Array.mem_of_getElem? h
  simpa using this
 have:=List.all_eq_true.1 aNc fn hm
 simpa using this
theorem QP:∀ (args:Array Value) (w:World),(callFunc 143 args).run Tryz.prog w=(callFunc 100 args).run Tryz.prog w:=
 qI (twin := "math/big.subVV_g") Tryz.func143 Tryz.func100 rfl rfl (by kernel_rfl) (by kernel_rfl) (by kernel_rfl) (by kernel_rfl) rfl rfl
theorem QO:∀ (args:Array Value) (w:World),(callFunc 152 args).run Tryz.prog w=(callFunc 99 args).run Tryz.prog w:=
 qI (twin := "math/big.addVV_g") Tryz.func152 Tryz.func99 rfl rfl (by kernel_rfl) (by kernel_rfl) (by kernel_rfl) (by kernel_rfl) rfl rfl
theorem QN:∀ (args:Array Value) (w:World),(callFunc 168 args).run Tryz.prog w=(callFunc 101 args).run Tryz.prog w:=
 qI (twin := "math/big.lshVU_g") Tryz.func168 Tryz.func101 rfl rfl (by kernel_rfl) (by kernel_rfl) (by kernel_rfl) (by kernel_rfl) rfl rfl
theorem QM:∀ (args:Array Value) (w:World),(callFunc 227 args).run Tryz.prog w=(callFunc 102 args).run Tryz.prog w:=
 qI (twin := "math/big.rshVU_g") Tryz.func227 Tryz.func102 rfl rfl (by kernel_rfl) (by kernel_rfl) (by kernel_rfl) (by kernel_rfl) rfl rfl
theorem QL:∀ (args:Array Value) (w:World),(callFunc 229 args).run Tryz.prog w=(callFunc 104 args).run Tryz.prog w:=
 qI (twin := "math/big.addMulVVWW_g") Tryz.func229 Tryz.func104 rfl rfl (by kernel_rfl) (by kernel_rfl) (by kernel_rfl) (by kernel_rfl) rfl rfl
theorem QK:∀ (args:Array Value) (w:World),(callFunc 232 args).run Tryz.prog w=(callFunc 103 args).run Tryz.prog w:=
 qI (twin := "math/big.mulAddVWW_g") Tryz.func232 Tryz.func103 rfl rfl (by kernel_rfl) (by kernel_rfl) (by kernel_rfl) (by kernel_rfl) rfl rfl
theorem aDg (f g:Nat) (h:look f tws=some g):∀ (args:Array Value) (w:World),(callFunc f args).run Tryz.prog w=(callFunc g args).run Tryz.prog w:=by
 have hm:=fT h
 simp only [tws,List.mem_cons,List.not_mem_nil,or_false,Prod.mk.injEq] at hm
 rcases hm with ⟨rfl,rfl⟩ | ⟨rfl,rfl⟩ | ⟨rfl,rfl⟩ | ⟨rfl,rfl⟩ | ⟨rfl,rfl⟩ | ⟨rfl,rfl⟩
 .exact QP
 .exact QO
 .exact QN
 .exact QM
 .exact QL
 .exact QK
theorem MB (Γ:Env):aF Tryz.prog Γ 165 (vX false):=Fc false fun args w=>by
 rw [run_callFunc_extern Tryz.func165 (by kernel_rfl) (by kernel_rfl) (by kernel_rfl) (e:=add64Entry) (by kernel_rfl)]
 simp only [Sem.run_bind,Sem.run_pure]
theorem GH (Γ:Env):aF Tryz.prog Γ 172 (vX true):=Fc true fun args w=>by
 rw [run_callFunc_extern Tryz.func172 (by kernel_rfl) (by kernel_rfl) (by kernel_rfl) (e:=Np) (by kernel_rfl)]
 simp only [Sem.run_bind,Sem.run_pure]
theorem sB (f:Nat) (S:Sum) (h:fF f=some S) (Γ:Env):aF Tryz.prog Γ f S:=by
 unfold fF at h
 split at h
 .rename_i hb;have:=cM hb;subst this;cases h;exact MB Γ
 .split at h
  .rename_i hb;have:=cM hb;subst this;cases h;exact GH Γ
  .cases h
def PZ:List Nat:=[407]
theorem aHn:(Tryz.prog.info? 407).all (fun i=>i.comparable)=true:=by kernel_rfl
theorem XI:Tryz.prog.stoodInHeld 407=false:=by kernel_rfl
theorem XV (t:Nat) (h:PZ.elem t=true):(∀ i,Tryz.prog.info? t=some i->i.comparable=true)/\Tryz.prog.stoodInHeld t=false:=by
 have e:t=407:=by simpa [PZ] using h
 subst e
 refine ⟨fun i hi=>?_,XI⟩
 have:=aHn
 rw [hi] at this
 simpa using this
theorem aEz (ex:Nat->Option Sum) (hex:∀ f S,ex f=some S->∀ Γ:Env,Γ.aR=aA->aF Tryz.prog Γ f S):FY Tryz.prog aA PZ ex tws:=
 ⟨mix,names,XV,⟨_,rfl⟩,aDg,hex⟩
noncomputable def env (ex:Nat->Option Sum) (n:Nat):Env:=Iy Tryz.prog aA PZ ex tws 400 n
theorem bS (ex:Nat->Option Sum) (hex:∀ f S,ex f=some S->∀ Γ:Env,Γ.aR=aA->aF Tryz.prog Γ f S) (n:Nat):cH Tryz.prog (env ex n):=XJ (aEz ex hex) 400 n
theorem bL (ex:Nat->Option Sum) (n:Nat):cA Tryz.prog (env ex n):=cA.prog oI.1
def Fp:List (Nat × SB):=[(10,.fL [.int true .u32 1634760805,.int true .u32 857760878,.int true .u32 2036477234,.int true .u32 1797285236]),(11,.fL ([0,4,8,12,1,5,9,13,2,6,10,14,3,7,11,15,0,5,10,15,1,6,11,12,2,7,8,13,3,4,9,14].map fun n=>.int true .i64 n))]
theorem Yk (key aC:List Int) (c:Int):aJ (env fF 6) Tryz.f68 true [] 400 [.agg (cK .u8 32 key),.int false .u32 c,.agg (cK .u8 12 aC)] (fun l=>look l Fp) 100 100 =
 some { val:=.agg ((B.block key aC c).map (.int false .u8)) }:=by kernel_rfl
def bZ:List Prop->Prop
 | []=>True
 | p::r=>p/\bZ r
theorem aB:∀ {l:List Prop},bZ l->∀ q∈l,q
 | [],_,q,hq=>by cases hq
 | p::r,h,q,hq=>by
   rcases List.mem_cons.1 hq with rfl | hq
   .exact h.1
   .exact aB h.2 q hq
theorem uY (V:bA) (k:IntKind):∀ xs:List Int,aI V (xs.map (SV.int false k))=some (xs.map (Value.int k))
 | []=>rfl
 | x::xs=>by simp [aI,den,uY V k xs]
theorem mD (V:bA) (k:IntKind) (xs:List Int):den V (.agg (xs.map (SV.int false k)))=den V (.ai k xs):=by
 simp only [den,uY,gQ]
theorem bF (V:bA) {k:IntKind} {n:Nat} {xs:List Int} (h:xs.length=n):den V (.agg (cK k n xs))=den V (.ai k xs):=by
 simp only [den,uS h,gQ]
theorem aE.words {P:Program} {Γ Γ':Env} {f:FuncId} {vs Hz:List SV} {T T':bB} {lab F:Nat} {e e':bK} (h:aE P Γ f vs T lab F e) (hg:Γ'.aR=Γ.aR) (hv:∀ V,aI V Hz=aI V vs) (hT:∀ l B,T l=some B->T' l=some B)
 (he:∀ V,den V e.val=den V e'.val) (hn:e'.new=e.new) (hw:e'.wr=e.wr):aE P Γ' f Hz T' lab F e':=by
 intro w0 M V T2 w xs aO Fv Ur hf hF hx o a K Q hK
 refine h w0 M V T2 w xs (fun l B hl=>aO l B (hT l B hl)) Fv (fun n l hl=>Ur n l (by rw [hg];exact hl)) hf hF ((hv V).symm.trans hx) o a K Q fun V' x w' h1 h2 h3=>hK V' x w' h1 ((he V').symm.trans h2) ?_
 have:eQ T2 lab e'=eQ T2 lab e:=by funext l;simp only [eQ,bK.fA,hn,hw]
 rw [this]
 exact h3
noncomputable def Dg (vs:List SV) (F:Nat):St:={ g:=(Aa vs 0 .lf).getD .lf,tb:=.lf,nx:=F,ws:=[],ob:=[],hs:=[] }
def codeOf (f:Func):Code:=f.body.getD .skip
theorem Hv (a:Int) (j:Nat):IntKind.u32.wrap (IntKind.u32.wrap (a+j)+1)=IntKind.u32.wrap (a+(j+1:Nat)):=by
 simp only [IntKind.wrap_u32];omega
theorem lY (n:Nat):cH Tryz.prog (env fF n):=bS fF (fun f S h Γ _=>sB f S h Γ) n
theorem Qm (key aC:List Int) (c:Int) (hk:key.length=32) (hn:aC.length=12) (Γ:Env) (hg:Γ.aR=aA) :
 aE Tryz.prog Γ 68 [.ai .u8 key,.int false .u32 c,.ai .u8 aC] (fun l=>look l Fp) 100 100 { val:=.ai .u8 (B.block key aC c) }:=by
 have hs:aF Tryz.prog (env fF 6) 68 (aJ (env fF 6) Tryz.f68 true [] 400):=
  aM (bL fF 6) (lY 6) mix Tryz.func68 (by kernel_rfl) true [] 400
 refine (hs.call (Yk key aC c) (by simp)).words (by rw [hg];rfl) (fun V=>?_) (fun _ _ h=>h) (fun V=>mD V _ _) rfl rfl
 simp only [aI,bF V hk,bF V hn]
def Ll (vs:List SV) (_:bB):Option Canon:=match vs with
 | [ks,.int _ .u32 c,ns]=>match cJ ks,cJ ns with
   | some (.u8,k),some (.u8,n)=>some { eN:=[.ai .u8 k,.int false .u32 c,.ai .u8 n],T0:=Fp,vl:=[],e0:={ val:=.ai .u8 (B.block k n c) },conds:=[k.length=32,n.length=12] }
   | _,_=>none
 | _=>none
def FU:Sum:=aL aA 100 Ll
theorem MA (Γ:Env) (hg:Γ.aR=aA):aF Tryz.prog Γ 68 FU:=by
 refine aU hg fun vs T c hd hc=>?_
 unfold Ll at hd
 split at hd
 case h_2=>cases hd
 split at hd
 case h_2=>cases hd
 cases hd
 exact Qm _ _ _ (hc _ (by simp)) (hc _ (by simp)) Γ hg
def exX (f:Nat):Option Sum:=match Nat.beq f 68 with
 | true=>some FU
 | false=>fF f
theorem aHi (f:Nat) (S:Sum) (h:exX f=some S) (Γ:Env) (hg:Γ.aR=aA):aF Tryz.prog Γ f S:=by
 unfold exX at h
 split at h
 .rename_i hb;have:=cM hb;subst this;cases h;exact MA Γ hg
 .exact sB f S h Γ
noncomputable def ΓX:Env:=env exX 8
theorem aCw:cH Tryz.prog ΓX:=bS exX aHi 8
def Ra (key aC:List Int) (c:Int) (off len cap:Nat):List SV:=[.ai .u8 key,.int false .u32 c,.ai .u8 aC,.aG 60 false off len cap]
def xG (xs:List Int) (ty:Nat):bB:=fun l=>look l ((60,.ints .u8 xs ty)::Fp)
def NF (c:Int) (off len cap:Nat) (i:Int):List (Nat × SV):=[(1,.int false .u32 c),(3,.aG 60 false off len cap),(4,.ptr 100 true 0),(6,.ptr 101 true 0),(8,.ptr 102 true 0),(11,.int false .i64 len),(12,.int false .i64 i)]
def ND (ty:Nat) (key aC xs aT:List Int):List (Nat × SB):=[(60,.ints .u8 xs ty),(100,.ints .u8 key 23),(101,.ints .u8 aC 74),(102,.ints .u8 aT 105)]
noncomputable def Rb:Code:=match (gV ΓX (bI 100 (xG [] 5)) 100 Tryz.f37.ntmps [3] 0 400 (.go (codeOf Tryz.f37)) [] (Dg (Ra [] [] 0 0 0 0) 100)) with
 | some ⟨.go (.loop L),_,_⟩=>L
 | _=>.skip
theorem aLq (key aC xs hY Je:List Int) (c c':Int) (ty off len cap:Nat) (i':Int) :
 (MG 100 (bI 100 (xG xs ty)) [100,108,116] (NF c' off len cap i') (ND ty key aC hY Je) 103 [60] [] (gV ΓX (bI 100 (xG xs ty)) 100 Tryz.f37.ntmps [3] 0 400 (.go (codeOf Tryz.f37)) [] ((Dg (Ra key aC c off len cap) 100).hint []))) =
 some (.go (.loop Rb),[.aT 0],[c=c',off=off,len=len,cap=cap,(↑len:Int)=(↑len:Int),0=i',xs=hY/\ty=ty,key=key/\23=23,aC=aC/\74=74,0::0::0::0::0::0::0::0::0::0::0::0::0::0::0::0::0::0::0::0::0::0::0::0::0::0::0::0::0::0::0::0::0::0::0::0::0::0::0::0::0::0::0::0::0::0::0::0::0::0::0::0::0::0::0::0::0::0::(fun x=>0::x) ((fun x=>0::x) ((fun x=>0::x) ((fun x=>0::x) ((fun x=>0::x) ((fun x=>0::x) [])))))=Je/\105=105]):=by kernel_rfl
theorem aLp (key aC xs gI aT hY Je:List Int) (c c':Int) (ty off len cap:Nat) (i i':Int) :
 MG 100 (bI 100 (xG gI ty)) [100,101,102] (NF c' off len cap i') (ND ty key aC hY Je) 103 [60] [] (gV ΓX (bI 100 (xG gI ty)) 100 Tryz.f37.ntmps [3] 0 400 (.go Rb) [] ((cG (NF c off len cap i) (ND ty key aC xs aT) 103 [60] []).hint [true,true])) =
 sh (↑len:Int) fun z0=>
 sh (B.block key aC c) fun z1=>
 some (Cf.at Ex.normal,[],[off+i.toNat*1<xs.length,0<=i/\i<z0,0+(i.tmod 64).toNat*1+1<=z1.length,0<=i.tmod 64/\i.tmod 64<64,off+i.toNat*1+1<=xs.length,0<=i/\i<z0,z1.length=64/\aT.length=64,key.length=32,aC.length=12,key=key,c=c,aC=aC,aC.length=12,key.length=32,(i.tmod 64==0)=true,decide (i<z0)=true,IntKind.u32.wrap (c+1)=c',off=off,len=len,cap=cap,z0=z0,IntKind.i64.wrap (i+1)=i',xs.set (off+i.toNat*1) (gW IntKind.u8 (xs.getD (off+i.toNat*1+0) 0) (z1.getD (0+(i.tmod 64).toNat*1+0) 0))=hY/\ty=ty,key=key/\23=23,aC=aC/\74=74,B.block key aC c=Je/\105=105]):=by kernel_rfl
theorem aLo (key aC xs gI aT hY Je:List Int) (c c':Int) (ty off len cap:Nat) (i i':Int) :
 MG 100 (bI 100 (xG gI ty)) [100,101,102] (NF c' off len cap i') (ND ty key aC hY Je) 103 [60] [] (gV ΓX (bI 100 (xG gI ty)) 100 Tryz.f37.ntmps [3] 0 400 (.go Rb) [] ((cG (NF c off len cap i) (ND ty key aC xs aT) 103 [60] []).hint [true,false])) =
 sh (↑len:Int) fun z0=>
 some (Cf.at Ex.normal,[],[off+i.toNat*1<xs.length,0<=i/\i<z0,0+(i.tmod 64).toNat*1+1<=aT.length,0<=i.tmod 64/\i.tmod 64<64,off+i.toNat*1+1<=xs.length,0<=i/\i<z0,(i.tmod 64==0)=false,decide (i<z0)=true,c=c',off=off,len=len,cap=cap,z0=z0,IntKind.i64.wrap (i+1)=i',xs.set (off+i.toNat*1) (gW IntKind.u8 (xs.getD (off+i.toNat*1+0) 0) (aT.getD (0+(i.tmod 64).toNat*1+0) 0))=hY/\ty=ty,key=key/\23=23,aC=aC/\74=74,aT=Je/\105=105]):=by kernel_rfl
theorem aLn (key aC xs gI aT:List Int) (c:Int) (ty off len cap:Nat) (i:Int) :
 MG 100 (bI 100 (xG gI ty)) [100,101,102] (NF c off len cap i) (ND ty key aC xs aT) 103 [60] [] (gV ΓX (bI 100 (xG gI ty)) 100 Tryz.f37.ntmps [3] 0 400 (.go Rb) [] ((cG (NF c off len cap i) (ND ty key aC xs aT) 103 [60] []).hint [false])) =
 sh (↑len:Int) fun z0=>
 some (Cf.at (Ex.exit 0),[],[decide (i<z0)=false,c=c,off=off,len=len,cap=cap,z0=z0,i=i,xs=xs/\ty=ty,key=key/\23=23,aC=aC/\74=74,aT=aT/\105=105]):=by kernel_rfl
theorem aLm (key aC xs gI aT:List Int) (c:Int) (ty off len cap:Nat) (i:Int) :
 Ja ΓX (xG gI ty) 100 100 Tryz.f37 (gV ΓX (bI 100 (xG gI ty)) 100 Tryz.f37.ntmps [3] 0 400 (.at (.exit 0)) [.aT 0] ((cG (NF c off len cap i) (ND ty key aC xs aT) 103 [60] []).hint [])) =
 some {val:=SV.eF [],wr:=[(60,SB.ints IntKind.u8 xs ty)]}:=by kernel_rfl
theorem uZ (key aC:List Int) (c:Int):(B.block key aC c).length=64:=by simp [B.block,B.out]
theorem GC (key aC xs:List Int) (c:Int) (ty off len cap:Nat) (hk:key.length=32) (hn:aC.length=12) (hx:off+len<=xs.length) (hl:len<=4611686018427387904) (hc:0<=c/\c<=4294967295) :
 aE Tryz.prog ΓX 37 (Ra key aC c off len cap) (xG xs ty) 100 100 { val:=.eF [],wr:=[(60,.ints .u8 (cE key aC c off len xs) ty)] }:=by
 have aW:=bL exX 8
 have aY:=aCw
 refine iE aW aY Tryz.func37 (by kernel_rfl) rfl (kJ (by kernel_rfl)) rfl [] ?_
 intro w0 M V0 Q hb H
 refine G.to aW aY mix hb [] (aLq key aC xs xs (List.replicate 64 0) c c ty off len cap 0) (aB (by simp [bZ])) ?_
 refine G.loop (fun r s=>∃ (i:Nat) (aT:List Int),i<=len/\r=len-i/\aT.length=64/\(i%64≠0->aT=B.block key aC (IntKind.u32.wrap (c+(i/64:Nat)))) /\
  s=cG (NF (IntKind.u32.wrap (c+((i+63)/64:Nat))) off len cap i) (ND ty key aC (cE key aC c off i xs) aT) 103 [60] []) (r0:=len)
  ⟨0,List.replicate 64 0,Nat.zero_le _,rfl,by simp,fun h=>absurd rfl h,by rw [Br];simp [IntWalk.u32_in c hc]⟩ ?_
 rintro r s ⟨i,aT,hi,rfl,Yu,eZ,rfl⟩
 have NS:((i:Int)).tmod 64=((i%64:Nat):Int):=by rw [Int.tmod_eq_emod_of_nonneg (by omega)];omega
 have Fh:=fN key aC c off i xs
 have Uq:IntKind.i64.wrap ((i:Int)+1)=((i+1:Nat):Int):=by rw [IntWalk.i64_in _ (by omega)];omega
 by_cases cL:i<len
 .have nX:∀ b:List Int,b.getD (i%64) 0=Iq key aC c i->(cE key aC c off i xs).set (off+(i:Int).toNat*1) (gW IntKind.u8 ((cE key aC c off i xs).getD (off+(i:Int).toNat*1+0) 0) (b.getD (0+((i:Int).tmod 64).toNat*1+0) 0))=cE key aC c off (i+1) xs:=by
   intro b hb
   rw [<- Pe key aC c off i xs (by omega),<- hb]
   simp only [NS,qZ,Nat.mul_one,Nat.add_zero,Nat.zero_add]
  by_cases h64:i%64=0
  .have e1:(i+63)/64=i/64:=by omega
   have e2:(i+1+63)/64=i/64+1:=by omega
   refine G.round aW aY mix hb [true,true] (aLp key aC _ xs aT (cE key aC c off (i+1) xs) (B.block key aC (IntKind.u32.wrap (c+(i/64:Nat)))) (IntKind.u32.wrap (c+((i+63)/64:Nat))) (IntKind.u32.wrap (c+((i+1+63)/64:Nat))) ty off len cap i ((i+1:Nat):Int)) (aB ?_) (len-(i+1)) (by omega) ⟨i+1,_,cL,rfl,uZ _ _ _,fun _=>by rw [show (i+1)/64=i/64 from by omega],rfl⟩
   simp only [sh,bZ,uZ,Uq,e1,e2,Hv]
   refine ⟨by omega,by omega,by omega,by omega,by omega,by omega,⟨trivial,Yu⟩,hk,hn,trivial,trivial,trivial,hn,hk,by rw [NS,h64];rfl,by simpa using cL,trivial,trivial,trivial,trivial,trivial,trivial,⟨nX _ rfl,trivial⟩,⟨trivial,trivial⟩,⟨trivial,trivial⟩,⟨trivial,trivial⟩,trivial⟩
  .have e1:(i+1+63)/64=(i+63)/64:=by omega
   refine G.round aW aY mix hb [true,false] (aLo key aC _ xs aT (cE key aC c off (i+1) xs) aT (IntKind.u32.wrap (c+((i+63)/64:Nat))) (IntKind.u32.wrap (c+((i+1+63)/64:Nat))) ty off len cap i ((i+1:Nat):Int)) (aB ?_) (len-(i+1)) (by omega) ⟨i+1,aT,cL,rfl,Yu,fun h=>by rw [eZ h64];congr 4;omega,rfl⟩
   simp only [sh,bZ,Uq,e1]
   refine ⟨by omega,by omega,by omega,by omega,by omega,by omega,by rw [NS];simpa using by omega,by simpa using cL,trivial,trivial,trivial,trivial,trivial,trivial,⟨nX _ (by rw [eZ h64];rfl),trivial⟩,⟨trivial,trivial⟩,⟨trivial,trivial⟩,⟨trivial,trivial⟩,trivial⟩
 .have hil:i=len:=by omega
  subst hil
  refine G.to aW aY mix hb [false] (aLn key aC _ xs aT _ ty off i cap i) (aB (by simp [bZ])) (G.leave (by simp) ?_)
  exact G.fin aW aY mix [] H (aLm key aC _ xs aT _ ty off i cap i) (by simp) rfl rfl rfl
def Ea:SB->Option (IntKind × List Int × Nat)
 | .ints k xs t=>some (k,xs,t)
 | .own cs t=>(tC cs).map fun p=>(p.1,p.2,t)
 | _=>none
def EB (vs:List SV) (T:bB):Option Canon:=match vs with
 | [ks,.int _ .u32 c,ns,.aG l _ off len cap]=>match cJ ks,cJ ns with
   | some (.u8,k),some (.u8,n)=>match T l with
     | some B=>match Ea B with
       | some (.u8,xs,ty)=>some { eN:=Ra k n c off len cap,T0:=(60,.ints .u8 xs ty)::Fp,vl:=[(60,.lab l 0)],e0:={ val:=.eF [],wr:=[(60,.ints .u8 (cE k n c off len xs) ty)] },conds:=[k.length=32,n.length=12,off+len<=xs.length,len<=4611686018427387904,0<=c/\c<=4294967295] }
       | _=>none
     | none=>none
   | _,_=>none
 | _=>none
def aJe:Sum:=aL aA 100 EB
theorem aCz (Γ:Env) (hg:Γ.aR=aA):aF Tryz.prog Γ 37 aJe:=by
 refine aU hg fun vs T c hd hc=>?_
 unfold EB at hd
 split at hd
 case h_2=>cases hd
 split at hd
 case h_2=>cases hd
 split at hd
 case h_2=>cases hd
 split at hd
 case h_2=>cases hd
 cases hd
 exact (GC _ _ _ _ _ _ _ _ (hc _ (by simp)) (hc _ (by simp)) (hc _ (by simp)) (hc _ (by simp)) (hc _ (by simp))).words (by rw [hg];rfl) (fun _=>rfl) (fun _ _ h=>h) (fun _=>rfl) rfl rfl
def Cb:bB:=fun l=>look l []
noncomputable def Jd (r:Option qH):Code:=match r with
 | some ⟨.go (.loop L),_,_⟩=>L
 | _=>.skip
noncomputable def Jc (r:Option qH):List Fr:=match r with
 | some ⟨_,fr,_⟩=>fr
 | none=>[]
theorem aN {p:Prop} {l:List Prop} (hp:p) (hl:∀ q∈l,q):∀ q∈p::l,q:=fun q hq=>(List.mem_cons.1 hq).elim (fun e=>e ▸ hp) (hl q)
theorem gM:∀ q∈([]:List Prop),q:=fun q hq=>by cases hq
theorem pL {l l':List Prop} (h1:∀ q∈l,q) (h2:∀ q∈l',q):∀ q∈l++l',q:=fun q hq=>(List.mem_append.1 hq).elim (h1 q) (h2 q)
def siV (key aC:List Int) (c:Int):List SV:=[.int true .u32 1634760805,.int true .u32 857760878,.int true .u32 2036477234,.int true .u32 1797285236]++((List.range 8).map (B.word key)).map (.int false .u32)++[.int false .u32 c]++((List.range 3).map (B.word aC)).map (.int false .u32)
theorem aDl (key aC:List Int) (c:Int):aJ (env fF 4) Tryz.f79 true [] 400 [.agg (cK .u8 32 key),.int false .u32 c,.agg (cK .u8 12 aC)] Cb 100 100=some { val:=.agg (siV key aC c) }:=by kernel_rfl
theorem TZ (s:List Int):aJ (env fF 4) Tryz.f85 true [] 400 [.agg (cK .u32 16 s)] Cb 100 100=some { val:=.agg ((B.out (B.rounds 10 (dA 16 s)) (dA 16 s)).map (.int false .u8)) }:=by kernel_rfl
noncomputable def yX:Env:=env fF 4
theorem Gt:cA Tryz.prog yX:=bL _ 4
theorem Gu:cH Tryz.prog yX:=lY 4
def aAx (off:Nat) (b:List Int):List SV:=[.ptr 60 false off,.ai .u8 b]
def sO (xs:List Int) (t:TypeId):bB:=fun l=>look l [(60,.ints .u8 xs t)]
noncomputable def tuM (xs:List Int) (t:TypeId) (cf:Cf) (K:List Fr) (s:St):Option qH:=gV yX (bI 100 (sO xs t)) 100 Tryz.f84.ntmps [2] 400 3000 cf K s
def Mv (off:Nat) (i:Int):List (Nat × SV):=[(0,.ptr 60 false off),(3,.ptr 100 true 0),(5,.int false .i64 i)]
def Mu (xs b:List Int) (t:TypeId):List (Nat × SB):=[(60,.ints .u8 xs t),(100,.ints .u8 b 105)]
noncomputable def tuR:Option qH:=tuM [] 0 (.go (codeOf Tryz.f84)) [] ((Dg (aAx 0 []) 100).hint [])
noncomputable def aAy:Code:=Jd tuR
noncomputable def tuK:List Fr:=Jc tuR
theorem aQg (xs hY b b':List Int) (t:TypeId) (off eY:Nat) (i':Int) :
 (hZ 100 Tryz.f84.ntmps (bI 100 (sO xs t)) [] (Mv eY i') (Mu hY b' t) 101 [60] [] (tuM xs t (.go (codeOf Tryz.f84)) [] ((Dg (aAx off b) 100).hint []))) =
 some (.go (.loop aAy),tuK,
  [off=eY,(0:Int)=i',xs=hY/\t=t,b=b'/\(105:Nat)=(105:TypeId)]):=by kernel_rfl
theorem aQf (gI xs hY b b':List Int) (t:TypeId) (off eY:Nat) (i i':Int) :
 (hZ 100 Tryz.f84.ntmps (bI 100 (sO gI t)) [] (Mv eY i') (Mu hY b' t) 101 [60] [] (tuM gI t (.go aAy) [] ((cG (Mv off i) (Mu xs b t) 101 [60] []).hint [true]))) =
 some (.at .normal,[],
  [off+i.toNat*(1:Nat)<xs.length,(0:Int)<=i/\i<(64:Int),(0:Nat)+i.toNat*(1:Nat)+(1:Nat)<=b.length,(0:Int)<=i/\i<(64:Int),
  off+i.toNat*(1:Nat)+(1:Nat)<=xs.length,(0:Int)<=i/\i<(64:Int),decide (i<(64:Int))=true,off=eY,IntKind.i64.wrap (i+(1:Int))=i',
  xs.set (off+i.toNat*(1:Nat)) (gW IntKind.u8 (xs.getD (off+i.toNat*(1:Nat)+0) (0:Int)) (b.getD ((0:Nat)+i.toNat*(1:Nat)+0) (0:Int)))=hY/\t=t,
  b=b'/\(105:TypeId)=(105:TypeId)]):=by kernel_rfl
theorem aQe (gI xs hY b b':List Int) (t:TypeId) (off eY:Nat) (i i':Int) :
 (hZ 100 Tryz.f84.ntmps (bI 100 (sO gI t)) [] (Mv eY i') (Mu hY b' t) 101 [60] [] (tuM gI t (.go aAy) [] ((cG (Mv off i) (Mu xs b t) 101 [60] []).hint [false]))) =
 some (.at (.exit 0),[],
  [decide (i<(64:Int))=false,off=eY,i=i',xs=hY/\t=t,b=b'/\(105:TypeId)=(105:TypeId)]):=by kernel_rfl
theorem aQd (gI xs b:List Int) (t:TypeId) (off:Nat) (i:Int) :
 xP yX (sO gI t) 100 100 Tryz.f84 [] (tuM gI t (.at (.exit 0)) tuK ((cG (Mv off i) (Mu xs b t) 101 [60] []).hint [])) =
 some { val:=SV.eF [],wr:=[(60,SB.ints IntKind.u8 xs t)] }:=by kernel_rfl
end Go.Proofs.YtnodfocobmghiaaGreatDoor.Sx
