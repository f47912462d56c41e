/- math/big: (*Int).Mod by 2^130 - 5, in place: what it leaves. -/
import Derived.Test.YticicdfijghigaaGreatDoorQF
open Go
set_option maxRecDepth 100000
namespace Go.Proofs.YticicdfijghigaaGreatDoor.Sx
def jO:SB->SB->Prop
 | .own cs t,.own ds t'=>t=t'/\∀ V,aE V ds=aE V cs
 | B,C=>B=C
def xE:List SB->List SB->Prop
 | [],[]=>True
 | B::r,C::t=>jO B C/\xE r t
 | _,_=>False
def oL:List (Nat × SB)->List (Nat × SB)->Prop
 | [],[]=>True
 | (l,B)::r,(k,C)::t=>l=k/\jO B C/\oL r t
 | _,_=>False
theorem cC (B:SB):jO B B:=by cases B <;> simp [jO]
theorem kW {B C:SB} (h:jO B C) (V:aY) (w:World) (l:Nat):(okB V w l B->okB V w l C)/\C.aN V l=B.aN V l/\C.owned=B.owned:=by
 cases B with
 | own cs t=>
   cases C with
   | own ds t'=>
     obtain ⟨rfl,hd⟩:=h
     exact ⟨fun ⟨us,hu,hr⟩=>⟨us,(hd V).trans hu,hr⟩,rfl,rfl⟩
   | _=>simp [jO] at h
 | _=>simp only [jO] at h;subst h;exact ⟨id,rfl,rfl⟩
theorem Gp {B C:SB} (h:jO B C) {w0:World} {M:Nat->Prop} {V:aY} {l:Nat} (hB:kR w0 M V l B):kR w0 M V l C:=by
 cases B with
 | own cs t=>
   cases C with
   | own ds t'=>trivial
   | _=>simp [jO] at h
 | _=>simp only [jO] at h;subst h;exact hB
theorem pO {l:Nat}:∀ {r t:List (Nat × SB)},oL r t->(look l r=none/\look l t=none)\/∃ B C,look l r=some B/\look l t=some C/\jO B C
 | [],[],_=>.inl ⟨rfl,rfl⟩
 | [],(k,C)::t,h=>by simp [oL] at h
 | (k,B)::r,[],h=>by simp [oL] at h
 | (k,B)::r,(k',C)::t,h=>by
   obtain ⟨rfl,h1,h2⟩:=h
   by_cases e:k=l
   .subst e;exact .inr ⟨B,C,aI _ _ _,aI _ _ _,h1⟩
   .rw [aD e,aD e];exact pO h2
theorem Dl:∀ {r t:List SB} (lab:Nat),xE r t->oL (fO lab r) (fO lab t)
 | [],[],_,_=>trivial
 | [],_::_,_,h=>by simp [xE] at h
 | _::_,[],_,h=>by simp [xE] at h
 | B::r,C::t,lab,h=>⟨rfl,h.1,Dl (lab+1) h.2⟩
theorem wJ:∀ {r t r' t':List (Nat × SB)},oL r t->oL r' t'->oL (r++r') (t++t')
 | [],[],_,_,_,h=>h
 | [],_::_,_,_,h,_=>by simp [oL] at h
 | _::_,[],_,_,h,_=>by simp [oL] at h
 | (_,_)::_,(_,_)::_,_,_,h,h'=>⟨h.1,h.2.1,wJ h.2.2 h'⟩
theorem aF.re {P:Program} {Γ Γ':Env} {f:FuncId} {vs:List SV} {T:aZ} {lab F:Nat} {e e':bJ} (h:aF P Γ f vs T lab F e) (hg:Γ'.aR=Γ.aR) (he:∀ V,den V e.val=den V e'.val) (hn:xE e.new e'.new) (hw:oL e.wr e'.wr):aF P Γ' f vs T lab F e':=by
 intro w0 M V T2 w xs aL Ic Yb hf hF hx o a K Q hK
 refine h w0 M V T2 w xs aL Ic (fun n l hl=>Yb n l (by rw [hg];exact hl)) hf hF hx o a K Q fun V' x w' h1 h2 h3=>hK V' x w' h1 ((he V').symm.trans h2) ?_
 have kF:oL (e.eG lab) (e'.eG lab):=wJ hw (Dl lab hn)
 have src:∀ l B,eI T2 lab e' l=some B->∃ C,eI T2 lab e l=some C/\jO C B:=by
  intro l B hl
  unfold eI at hl |-
  rcases pO (l:=l) kF with ⟨e1,e2⟩ | ⟨C,D,e1,e2,e3⟩
  .rw [e2] at hl;rw [e1];exact ⟨B,hl,cC B⟩
  .rw [e2] at hl;cases hl;rw [e1];exact ⟨C,rfl,e3⟩
 refine ⟨fun l B hl=>?_,fun l B l' B' n dD hl rK ho hb iE=>?_,fun l B n hl ho hb=>?_,h3.frame,fun l B hl=>?_⟩
 .obtain ⟨C,hC,hs⟩:=src l B hl
  exact (kW hs V' w' l).1 (h3.ok l C hC)
 .obtain ⟨C,hC,hs⟩:=src l B hl
  obtain ⟨C',hC',Dz⟩:=src l' B' rK
  obtain ⟨_,b1,b2⟩:=kW hs V' w' l
  obtain ⟨_,b1',b2'⟩:=kW Dz V' w' l'
  exact h3.jN l C l' C' n dD hC hC' (b2 ▸ ho) (b1 ▸ hb) (b1' ▸ iE)
 .obtain ⟨C,hC,hs⟩:=src l B hl
  obtain ⟨_,b1,b2⟩:=kW hs V' w' l
  exact h3.perm l C n hC (b2 ▸ ho) (b1 ▸ hb)
 .obtain ⟨C,hC,hs⟩:=src l B hl
  exact Gp hs (h3.sL l C hC)
namespace M
def bA:Int:=1361129467683753853853498429727072845819
theorem IB:DD=4611686018427387904*bA:=by decide
theorem CR {k y i:Nat} (hy:y<2^i) (hk:k*2^i+y<18446744073709551616):kN .u64 ((k*2^i:Nat):Int) (y:Int)=((k*2^i+y:Nat):Int):=by
 have h:=bits_or_u64_nat (k*2^i) y (by omega) (by omega)
 have e:k*2^i ||| y=k*2^i+y:=by
  rw [<- Nat.shiftLeft_eq]
  exact (Nat.shiftLeft_add_eq_or_of_lt hy k).symm
 rw [e] at h
 exact h
theorem CS (x y:Int):kN .u64 x y=kN .u64 y x:=by unfold kN;rw [BitVec.or_comm]
theorem aDt (a:Int):dI .u64 a 62=ul (a*4611686018427387904):=by unfold dI;rw [bP];rfl
theorem aOa (a:Int):dI .u64 a 2=ul (a*4):=by unfold dI;rw [bP];rfl
theorem EY (a:Int):bZ .u64 a 62=a/4611686018427387904:=by
 show Int.fdiv a 4611686018427387904=_
 rw [Int.fdiv_eq_ediv_of_nonneg _ (by decide)]
theorem TG (a:Int):bZ .u64 a 2=a/4:=by
 show Int.fdiv a 4=_
 rw [Int.fdiv_eq_ediv_of_nonneg _ (by decide)]
theorem FJ (a:Int):s0 a=a%4*4611686018427387904:=by unfold s0;rw [aDt];unfold ul;omega
theorem FI (a:Int):s2 a=a/4:=TG a
theorem aOm (k y:Int) (hk:0<=k) (hk4:k<4) (fG:0<=y) (hy:y<4611686018427387904):kN .u64 (k*4611686018427387904) y=k*4611686018427387904+y:=by
 obtain ⟨k,rfl⟩:=Int.eq_ofNat_of_zero_le hk
 obtain ⟨y,rfl⟩:=Int.eq_ofNat_of_zero_le fG
 have e:(k:Int)*4611686018427387904=((k*2^62:Nat):Int):=by rw [Int.natCast_mul];rfl
 have RK:(2:Nat)^62=4611686018427387904:=rfl
 rw [e,CR (by omega) (by omega)]
 omega
theorem or2 (k y:Int) (hk:0<=k) (hk4:k<4611686018427387904) (fG:0<=y) (hy:y<4):kN .u64 (k*4) y=k*4+y:=by
 obtain ⟨k,rfl⟩:=Int.eq_ofNat_of_zero_le hk
 obtain ⟨y,rfl⟩:=Int.eq_ofNat_of_zero_le fG
 have e:(k:Int)*4=((k*2^2:Nat):Int):=by rw [Int.natCast_mul];rfl
 have RK:(2:Nat)^2=4:=rfl
 rw [e,CR (by omega) (by omega)]
 omega
theorem Fv {a b:Int} (ha:U a):s1 a b=b%4*4611686018427387904+a/4:=by
 have:=ha.1;have:=ha.2
 unfold s1
 rw [aDt,TG]
 have e:ul (b*4611686018427387904)=b%4*4611686018427387904:=by unfold ul;omega
 rw [e]
 exact aOm (b%4) (a/4) (by omega) (by omega) (by omega) (by omega)
theorem aQx (x:Int):t0 x=w0 x/4611686018427387904+w1 x%4611686018427387904*4:=by
 obtain ⟨h0,h1,h2⟩:=w_U x
 have:=h0.1;have:=h0.2;have:=h1.1;have:=h1.2
 unfold t0
 rw [EY,aOa,CS]
 have e:ul (w1 x*4)=w1 x%4611686018427387904*4:=by unfold ul;omega
 rw [e,or2 (w1 x%4611686018427387904) (w0 x/4611686018427387904) (by omega) (by omega) (by omega) (by omega)]
 omega
theorem aQw (x:Int):t1 x=w1 x/4611686018427387904+w2 x%4611686018427387904*4:=by
 obtain ⟨h0,h1,h2⟩:=w_U x
 have:=h1.1;have:=h1.2;have:=h2.1;have:=h2.2
 unfold t1
 rw [EY,aOa,CS]
 have e:ul (w2 x*4)=w2 x%4611686018427387904*4:=by unfold ul;omega
 rw [e,or2 (w2 x%4611686018427387904) (w1 x/4611686018427387904) (by omega) (by omega) (by omega) (by omega)]
 omega
theorem aQv (x:Int):t2 x=w2 x/4611686018427387904:=by
 obtain ⟨h0,h1,h2⟩:=w_U x
 have:=h2.1;have:=h2.2
 unfold t2
 have:=aOm 0 (w2 x/4611686018427387904) (by omega) (by omega) (by omega) (by omega)
 rw [Int.zero_mul] at this
 rw [EY,CS,this]
 omega
theorem II {R:Int} (h0:0<=R) (h1:R<bA):t0 (4611686018427387904*R)=w0 R/\t1 (4611686018427387904*R)=w1 R/\t2 (4611686018427387904*R)=w2 R:=by
 have Ei:R<1361129467683753853853498429727072845819:=h1
 rw [aQx,aQw,aQv]
 unfold w0 w1 w2
 refine ⟨?_,?_,?_⟩ <;> omega
theorem aDm {a0 a1 a2:Int} (h0:U a0) (h1:U a1) (h2:U a2):x3 a0 a1 a2=4611686018427387904*n3 a0 a1 a2:=by
 have:=h0.1;have:=h0.2;have:=h1.1;have:=h1.2;have:=h2.1;have:=h2.2
 unfold x3
 rw [FJ,Fv h0,Fv h1,FI]
 unfold n4 n3
 omega
theorem aEv {a0 a1 a2 a3:Int} (h0:U a0) (h1:U a1) (h2:U a2) (h3:U a3):s0 a0+18446744073709551616*h4 a0 a1 a2 a3=4611686018427387904*n4 a0 a1 a2 a3:=by
 have:=h0.1;have:=h0.2;have:=h1.1;have:=h1.2;have:=h2.1;have:=h2.2;have:=h3.1;have:=h3.2
 unfold h4
 rw [FJ,Fv h0,Fv h1,Fv h2,FI]
 unfold n4
 omega
theorem JK (n:Int):4611686018427387904*n%DD=4611686018427387904*(n%bA):=by
 rw [IB];exact Int.mul_emod_mul_of_pos _ _ (by decide)
theorem aNb (n:Int):4611686018427387904*n/DD=n/bA:=by
 rw [IB];exact Int.mul_ediv_mul_of_pos _ _ (by decide)
theorem aHo {a0 a1 a2:Int} (h0:U a0) (h1:U a1) (h2:U a2):x3 a0 a1 a2%DD=4611686018427387904*(n3 a0 a1 a2%bA):=by
 rw [aDm h0 h1 h2,JK]
theorem aHp {a0 a1 a2:Int} (h0:U a0) (h1:U a1) (h2:U a2):x3 a0 a1 a2/DD=n3 a0 a1 a2/bA:=by
 rw [aDm h0 h1 h2,aNb]
theorem aDl {a0 a1 a2 a3:Int}:x4 a0 a1 a2 a3=s0 a0+18446744073709551616*(h4 a0 a1 a2 a3%DD):=aDz
theorem aHm {a0 a1 a2 a3:Int} (h0:U a0) (h1:U a1) (h2:U a2) (h3:U a3):x4 a0 a1 a2 a3%DD=4611686018427387904*(n4 a0 a1 a2 a3%bA):=by
 rw [<- JK,<- aEv h0 h1 h2 h3,aDl]
 rw [Int.add_emod,Int.mul_emod,Int.emod_emod_of_dvd _ (Int.dvd_refl DD),<- Int.mul_emod,<- Int.add_emod]
theorem aHn {a0 a1 a2 a3:Int} (h0:U a0) (h1:U a1) (h2:U a2) (h3:U a3) (hp:bA<=n4 a0 a1 a2 a3) (hz:h4 a0 a1 a2 a3/DD=0):x4 a0 a1 a2 a3/DD≠0:=by
 have hh:=aEv h0 h1 h2 h3
 have hx:=aDl (a0:=a0) (a1:=a1) (a2:=a2) (a3:=a3)
 have hd:=IB
 have e1:=Int.emod_add_mul_ediv (h4 a0 a1 a2 a3) DD
 rw [hz] at e1
 have e2:h4 a0 a1 a2 a3%DD=h4 a0 a1 a2 a3:=by omega
 rw [e2,hh] at hx
 intro e
 have e3:=Int.emod_lt_of_pos (x4 a0 a1 a2 a3) Sf
 have e4:=Int.emod_add_mul_ediv (x4 a0 a1 a2 a3) DD
 rw [e] at e4
 omega
theorem sU {a:Int} (h:U a):U (s0 a)/\U (s2 a)/\s2 a<9223372036854775808:=by
 have:=h.1;have:=h.2
 rw [FJ,FI]
 unfold U
 omega
theorem s1U {a b:Int} (h:U a):U (s1 a b):=by
 have:=h.1;have:=h.2
 rw [Fv h]
 unfold U
 omega
theorem aDw (n:Int):0<=n%bA/\n%bA<bA:=⟨Int.emod_nonneg _ (by decide),Int.emod_lt_of_pos _ (by decide)⟩
def ln (R:Int):Nat:=nl [w0 R,w1 R,w2 R]
theorem gI:∀ l:List Int,nl (l++[0])=nl l
 | []=>rfl
 | x::r=>by simp only [List.cons_append,nl,gI r]
theorem nl4 (a b c:Int):nl [a,b,c,0]=nl [a,b,c]:=gI [a,b,c]
theorem nl5 (a b c:Int):nl [a,b,c,0,0]=nl [a,b,c]:=(gI [a,b,c,0]).trans (nl4 a b c)
theorem aEk (R:Int):ln R<=3:=GA _
theorem Rw {x y:Int}:decide (cmp x y<0)=decide (x<y):=by
 unfold cmp
 by_cases h:x<y
 .rw [if_pos h];simp [h]
 .rw [if_neg h];split <;> simp [h]
end M
open M in
theorem Su {a0:Int} (h0:U a0) (hz:a0≠0):aF Tryz.prog Γv 138 qQ (mdT 1 6 (wc [a0,0,0,0,0,0])) 100 100
 { val:=.ptr 61 true 0,wr:=[(61,.own [.bool true false,.aG 63 false 0 (ln (a0%bA)) 6] 146),(63,.own (wc [w0 (a0%bA),w1 (a0%bA),w2 (a0%bA),0,0,0]) 196)] }:=by
 have:=h0.1;have:=h0.2
 have hs:aH Tryz.prog (env (pD true 0 0) 22) 138 (aJ (env (pD true 0 0) 22) Tryz.f138 true [] 400):=aM (bQ _ 22) (bW _ (nR true 0 0) 22) mix Tryz.func138 (by kernel_rfl) true [] 400
 have hR:a0%bA=a0:=Int.emod_eq_of_lt (by omega) (by unfold bA;omega)
 have e0:w0 (a0)=a0:=by unfold w0;omega
 have e1:w1 (a0)=0:=by unfold w1;omega
 have e2:w2 (a0)=0:=by unfold w2;omega
 have hl:ln (a0)=1:=by unfold ln;rw [e0,e1,e2];simp only [nl,if_true,if_neg hz]
 rw [hR,e0,e1,e2,hl]
 refine (hs.call (aKh a0) ?_).re rfl (fun _=>rfl) trivial ⟨rfl,⟨rfl,fun _=>rfl⟩,rfl,⟨rfl,fun _=>rfl⟩,trivial⟩
 simp
open M in
theorem Ss {a0 a1:Int} (h0:U a0) (h1:U a1) (hz:a1≠0):aF Tryz.prog Γv 138 qQ (mdT 2 6 (wc [a0,a1,0,0,0,0])) 100 100
 { val:=.ptr 61 true 0,wr:=[(61,.own [.bool true false,.aG 63 false 0 (ln ((a0+18446744073709551616*a1)%bA)) 6] 146),(63,.own (wc [w0 ((a0+18446744073709551616*a1)%bA),w1 ((a0+18446744073709551616*a1)%bA),w2 ((a0+18446744073709551616*a1)%bA),0,0,0]) 196)] }:=by
 have:=h0.1;have:=h0.2;have:=h1.1;have:=h1.2
 have hs:aH Tryz.prog (env (pD true 0 0) 22) 138 (aJ (env (pD true 0 0) 22) Tryz.f138 true [] 400):=aM (bQ _ 22) (bW _ (nR true 0 0) 22) mix Tryz.func138 (by kernel_rfl) true [] 400
 have hR:(a0+18446744073709551616*a1)%bA=(a0+18446744073709551616*a1):=Int.emod_eq_of_lt (by omega) (by unfold bA;omega)
 have e0:w0 ((a0+18446744073709551616*a1))=a0:=by unfold w0;omega
 have e1:w1 ((a0+18446744073709551616*a1))=a1:=by unfold w1;omega
 have e2:w2 ((a0+18446744073709551616*a1))=0:=by unfold w2;omega
 have hl:ln ((a0+18446744073709551616*a1))=2:=by unfold ln;rw [e0,e1,e2];simp only [nl,if_true,if_neg hz]
 rw [hR,e0,e1,e2,hl]
 refine (hs.call (aKg a0 a1) ?_).re rfl (fun _=>rfl) trivial ⟨rfl,⟨rfl,fun _=>rfl⟩,rfl,⟨rfl,fun _=>rfl⟩,trivial⟩
 simp
open M in
theorem Sr {a0 a1:Int} (h0:U a0) (h1:U a1) (hz:a1≠0):aF Tryz.prog Γv 138 qQ (mdT 2 7 (wc [a0,a1,0,0,0,0,0])) 100 100
 { val:=.ptr 61 true 0,wr:=[(61,.own [.bool true false,.aG 63 false 0 (ln ((a0+18446744073709551616*a1)%bA)) 7] 146),(63,.own (wc [w0 ((a0+18446744073709551616*a1)%bA),w1 ((a0+18446744073709551616*a1)%bA),w2 ((a0+18446744073709551616*a1)%bA),0,0,0,0]) 196)] }:=by
 have:=h0.1;have:=h0.2;have:=h1.1;have:=h1.2
 have hs:aH Tryz.prog (env (pD true 0 0) 22) 138 (aJ (env (pD true 0 0) 22) Tryz.f138 true [] 400):=aM (bQ _ 22) (bW _ (nR true 0 0) 22) mix Tryz.func138 (by kernel_rfl) true [] 400
 have hR:(a0+18446744073709551616*a1)%bA=(a0+18446744073709551616*a1):=Int.emod_eq_of_lt (by omega) (by unfold bA;omega)
 have e0:w0 ((a0+18446744073709551616*a1))=a0:=by unfold w0;omega
 have e1:w1 ((a0+18446744073709551616*a1))=a1:=by unfold w1;omega
 have e2:w2 ((a0+18446744073709551616*a1))=0:=by unfold w2;omega
 have hl:ln ((a0+18446744073709551616*a1))=2:=by unfold ln;rw [e0,e1,e2];simp only [nl,if_true,if_neg hz]
 rw [hR,e0,e1,e2,hl]
 refine (hs.call (aKf a0 a1) ?_).re rfl (fun _=>rfl) trivial ⟨rfl,⟨rfl,fun _=>rfl⟩,rfl,⟨rfl,fun _=>rfl⟩,trivial⟩
 simp
open M in
theorem Sq {a0 a1 a2:Int} (h0:U a0) (h1:U a1) (h2:U a2) (hz:a2≠0) (hp:n3 a0 a1 a2<bA):aF Tryz.prog Γv 138 qQ (mdT 3 7 (wc [a0,a1,a2,0,0,0,0])) 100 100
 { val:=.ptr 61 true 0,wr:=[(61,.own [.bool true false,.aG 63 false 0 (ln (n3 a0 a1 a2%bA)) 7] 146),(63,.own (wc [w0 (n3 a0 a1 a2%bA),w1 (n3 a0 a1 a2%bA),w2 (n3 a0 a1 a2%bA),0,0,0,0]) 196)] }:=by
 have:=h0.1;have:=h0.2;have:=h1.1;have:=h1.2;have:=h2.1;have:=h2.2
 have hs:aH Tryz.prog (env (pD true 0 0) 22) 138 (aJ (env (pD true 0 0) 22) Tryz.f138 true [] 400):=aM (bQ _ 22) (bW _ (nR true 0 0) 22) mix Tryz.func138 (by kernel_rfl) true [] 400
 have hR:n3 a0 a1 a2%bA=n3 a0 a1 a2:=Int.emod_eq_of_lt (by unfold n3;omega) (by exact hp)
 have e0:w0 (n3 a0 a1 a2)=a0:=by unfold w0 n3;omega
 have e1:w1 (n3 a0 a1 a2)=a1:=by unfold w1 n3;omega
 have e2:w2 (n3 a0 a1 a2)=a2:=by unfold w2 n3;omega
 have hl:ln (n3 a0 a1 a2)=3:=by unfold ln;rw [e0,e1,e2];simp only [nl,if_true,if_neg hz]
 rw [hR,e0,e1,e2,hl]
 refine (hs.call (aKe a0 a1 a2) ?_).re rfl (fun _=>rfl) trivial ⟨rfl,⟨rfl,fun _=>rfl⟩,rfl,⟨rfl,fun _=>rfl⟩,trivial⟩
 refine aA ?_
 simp only [sh,bX,Rw,and_true,true_and,h0,h1,h2]
 exact ⟨decide_eq_true hp,⟨by decide,by decide⟩,⟨by decide,by decide⟩,⟨by decide,by decide⟩⟩
open M in
theorem Sp {a0 a1 a2:Int} (h0:U a0) (h1:U a1) (h2:U a2) (hz:a2≠0) (hp:n3 a0 a1 a2<bA):aF Tryz.prog Γv 138 qQ (mdT 3 8 (wc [a0,a1,a2,0,0,0,0,0])) 100 100
 { val:=.ptr 61 true 0,wr:=[(61,.own [.bool true false,.aG 63 false 0 (ln (n3 a0 a1 a2%bA)) 8] 146),(63,.own (wc [w0 (n3 a0 a1 a2%bA),w1 (n3 a0 a1 a2%bA),w2 (n3 a0 a1 a2%bA),0,0,0,0,0]) 196)] }:=by
 have:=h0.1;have:=h0.2;have:=h1.1;have:=h1.2;have:=h2.1;have:=h2.2
 have hs:aH Tryz.prog (env (pD true 0 0) 22) 138 (aJ (env (pD true 0 0) 22) Tryz.f138 true [] 400):=aM (bQ _ 22) (bW _ (nR true 0 0) 22) mix Tryz.func138 (by kernel_rfl) true [] 400
 have hR:n3 a0 a1 a2%bA=n3 a0 a1 a2:=Int.emod_eq_of_lt (by unfold n3;omega) (by exact hp)
 have e0:w0 (n3 a0 a1 a2)=a0:=by unfold w0 n3;omega
 have e1:w1 (n3 a0 a1 a2)=a1:=by unfold w1 n3;omega
 have e2:w2 (n3 a0 a1 a2)=a2:=by unfold w2 n3;omega
 have hl:ln (n3 a0 a1 a2)=3:=by unfold ln;rw [e0,e1,e2];simp only [nl,if_true,if_neg hz]
 rw [hR,e0,e1,e2,hl]
 refine (hs.call (aKd a0 a1 a2) ?_).re rfl (fun _=>rfl) trivial ⟨rfl,⟨rfl,fun _=>rfl⟩,rfl,⟨rfl,fun _=>rfl⟩,trivial⟩
 refine aA ?_
 simp only [sh,bX,Rw,and_true,true_and,h0,h1,h2]
 exact ⟨decide_eq_true hp,⟨by decide,by decide⟩,⟨by decide,by decide⟩,⟨by decide,by decide⟩⟩
open M in
theorem Gx {c:Nat} (hc:c=7\/c=8) {a0 a1 a2:Int} (h0:U a0) (h1:U a1) (h2:U a2) (hp:bA<=n3 a0 a1 a2):aF Tryz.prog Γv 138 qQ (mdT 3 c (wc ([a0,a1,a2]++List.replicate (c-3) 0))) 100 100
 { val:=.ptr 61 true 0,wr:=[(61,.own [.bool true false,.aG 63 false 0 (ln (n3 a0 a1 a2%bA)) c] 146),(63,.own (wc ([w0 (n3 a0 a1 a2%bA),w1 (n3 a0 a1 a2%bA),w2 (n3 a0 a1 a2%bA)]++List.replicate (c-3) 0)) 196)] }:=by
 have hs:∀ iq ir,aH Tryz.prog (env (pD false iq ir) 22) 138 (aJ (env (pD false iq ir) 22) Tryz.f138 true [] 400):=fun iq ir=>aM (bQ _ 22) (bW _ (nR false iq ir) 22) mix Tryz.func138 (by kernel_rfl) true [] 400
 obtain ⟨r0,r1⟩:=aDw (n3 a0 a1 a2)
 obtain ⟨b0,b1,b2⟩:=II r0 r1
 obtain ⟨v0,v1,v2⟩:=sU h0
 obtain ⟨_,v3,v4⟩:=sU h2
 have hm:=aHo h0 h1 h2
 have hq:x3 a0 a1 a2/DD≠0:=by
  rw [aHp h0 h1 h2]
  have:=Int.emod_add_mul_ediv (n3 a0 a1 a2) bA
  intro e
  rw [e] at this
  omega
 have zP:nl [x3 a0 a1 a2/DD]=1:=by simp only [nl,if_neg hq]
 refine ((hs 1 _).call (aSo hc (aEk (n3 a0 a1 a2%bA)) a0 a1 a2) (aA ?_)).re rfl (fun _=>rfl) trivial ⟨rfl,⟨rfl,fun _=>rfl⟩,rfl,⟨rfl,fun _=>by rw [hm,b0,b1,b2]⟩,trivial⟩
 simp only [sh,bX,hm,b0,b1,b2,nl4,ln,zP,and_true,true_and,h0,h1,h2,v0,v3,v4,s1U h0,s1U h1,Rw]
 exact ⟨decide_eq_false (by show ¬ n3 a0 a1 a2<bA;omega),⟨by decide,by decide⟩,⟨by decide,by decide⟩,⟨by decide,by decide⟩⟩
open M in
theorem Gw {c:Nat} (hc:c=8\/c=9) {a0 a1 a2 a3:Int} (h0:U a0) (h1:U a1) (h2:U a2) (h3:U a3) (hp:bA<=n4 a0 a1 a2 a3):aF Tryz.prog Γv 138 qQ (mdT 4 c (wc ([a0,a1,a2,a3]++List.replicate (c-4) 0))) 100 100
 { val:=.ptr 61 true 0,wr:=[(61,.own [.bool true false,.aG 63 false 0 (ln (n4 a0 a1 a2 a3%bA)) c] 146),(63,.own (wc ([w0 (n4 a0 a1 a2 a3%bA),w1 (n4 a0 a1 a2 a3%bA),w2 (n4 a0 a1 a2 a3%bA),0]++List.replicate (c-4) 0)) 196)] }:=by
 have hs:∀ iq ir,aH Tryz.prog (env (pD false iq ir) 22) 138 (aJ (env (pD false iq ir) 22) Tryz.f138 true [] 400):=fun iq ir=>aM (bQ _ 22) (bW _ (nR false iq ir) 22) mix Tryz.func138 (by kernel_rfl) true [] 400
 obtain ⟨r0,r1⟩:=aDw (n4 a0 a1 a2 a3)
 obtain ⟨b0,b1,b2⟩:=II r0 r1
 obtain ⟨v0,v1,v2⟩:=sU h0
 obtain ⟨_,v3,v4⟩:=sU h3
 have hm:=aHm h0 h1 h2 h3
 have zP:nl [x4 a0 a1 a2 a3/DD,h4 a0 a1 a2 a3/DD]=1\/nl [x4 a0 a1 a2 a3/DD,h4 a0 a1 a2 a3/DD]=2:=by
  by_cases hz:h4 a0 a1 a2 a3/DD=0
  .exact .inl (by simp only [nl,hz,if_true,if_neg (aHn h0 h1 h2 h3 hp hz)])
  .exact .inr (by simp only [nl,if_neg hz])
 refine ((hs _ _).call (aSn hc zP (aEk (n4 a0 a1 a2 a3%bA)) a0 a1 a2 a3) (aA ?_)).re rfl (fun _=>rfl) trivial ⟨rfl,⟨rfl,fun _=>rfl⟩,rfl,⟨rfl,fun _=>by rw [hm,b0,b1,b2]⟩,trivial⟩
 simp only [sh,bX,hm,b0,b1,b2,nl5,ln,and_true,true_and,h0,h1,h2,h3,v0,v3,v4,s1U h0,s1U h1,s1U h2]
theorem Si {B C:SB} (h:jO B C):jO C B:=by
 cases B with
 | own cs t=>
   cases C with
   | own ds t'=>exact ⟨h.1.symm,fun V=>(h.2 V).symm⟩
   | _=>simp [jO] at h
 | _=>simp only [jO] at h;subst h;exact cC _
theorem aF.reL {P:Program} {Γ:Env} {f:FuncId} {vs Kl:List SV} {L L':List (Nat × SB)} {lab F:Nat} {e:bJ} (h:aF P Γ f vs (fun l=>look l L) lab F e) (hw:oL L L') (hv:∀ V,aE V Kl=aE V vs):aF P Γ f Kl (fun l=>look l L') lab F e:=by
 intro w0 M V T2 w xs aL Ic Yb hf hF hx o a K Q hK
 obtain ⟨T3,hT3⟩:∃ T3:aZ,T3=fun l=>match look l L with
  | some B=>some B
  | none=>T2 l:=⟨_,rfl⟩
 have src:∀ l B,T3 l=some B->∃ C,T2 l=some C/\jO C B:=by
  intro l B hl
  rw [hT3] at hl
  simp only at hl
  rcases pO (l:=l) hw with ⟨e1,e2⟩ | ⟨C,D,e1,e2,e3⟩
  .rw [e1] at hl;exact ⟨B,hl,cC B⟩
  .rw [e1] at hl;cases hl;exact ⟨D,aL l D e2,Si e3⟩
 have back:∀ l B,T2 l=some B->∃ C,T3 l=some C/\jO C B:=by
  intro l B hl
  rw [hT3]
  rcases pO (l:=l) hw with ⟨e1,e2⟩ | ⟨C,D,e1,e2,e3⟩
  .simp only [e1];exact ⟨B,hl,cC B⟩
  .simp only [e1]
   have:=aL l D e2
   rw [hl] at this
   cases this
   exact ⟨C,rfl,e3⟩
 have move:∀ {T T':aZ} {V:aY} {w:World},(∀ l B,T' l=some B->∃ C,T l=some C/\jO C B)->aC w0 M V T w->aC w0 M V T' w:=by
  intro T T' V w hs ht
  refine ⟨fun l B hl=>?_,fun l B l' B' n dD hl rK ho hb iE=>?_,fun l B n hl ho hb=>?_,ht.frame,fun l B hl=>?_⟩
  .obtain ⟨C,hC,hs⟩:=hs l B hl
   exact (kW hs V w l).1 (ht.ok l C hC)
  .obtain ⟨C,hC,fQ⟩:=hs l B hl
   obtain ⟨C',hC',Dz⟩:=hs l' B' rK
   obtain ⟨_,b1,b2⟩:=kW fQ V w l
   obtain ⟨_,b1',b2'⟩:=kW Dz V w l'
   exact ht.jN l C l' C' n dD hC hC' (b2 ▸ ho) (b1 ▸ hb) (b1' ▸ iE)
  .obtain ⟨C,hC,hs⟩:=hs l B hl
   obtain ⟨_,b1,b2⟩:=kW hs V w l
   exact ht.perm l C n hC (b2 ▸ ho) (b1 ▸ hb)
  .obtain ⟨C,hC,hs⟩:=hs l B hl
   exact Gp hs (ht.sL l C hC)
 refine h w0 M V T3 w xs (fun l B hl=>?_) (move src Ic) Yb hf hF ((hv V).symm.trans hx) o a K Q fun V' x w' h1 h2 h3=>hK V' x w' h1 h2 (move (fun l B hl=>?_) h3)
 .have hl:look l L=some B:=hl
  rw [hT3];simp only;rw [hl]
 .unfold eI at hl |-
  cases hk:look l (e.eG lab) with
  | some C=>rw [hk] at hl;cases hl;exact ⟨_,rfl,cC _⟩
  | none=>rw [hk] at hl;exact back l B hl
noncomputable def aKc:Option bJ:=aJ (env (pD true 0 0) 22) Tryz.f138 true [] 400 qQ (fun l=>look l [(61,.own [.bool true false,.raw (.slice none 0 0)] 146),(62,.own [.bool true false,.aG 66 true 0 3 8] 146),(66,.own Ed 196),(18,.fP [.int true .i64 40])]) 100 100
theorem md0 (x:Int) :
 aKc =
 some {val:=SV.ptr 61 true 0,wr:=[(61,SB.own [SV.bool true false,SV.raw (Value.slice none (0:Nat) (0:Nat))] 146)]}:=by kernel_rfl
open M in
def GI (vs:List SV) (T:aZ):Option Canon:=match vs with
 | [.ptr l1 true 0,.ptr l1' true 0,.ptr l2 true 0]=>match Nat.beq l1 l1',T l1,T l2 with
   | true,some (.own [.bool _ _,X] 146),some (.own [.bool _ _,.aG lp _ 0 3 8] 146)=>match X with
     | .raw (.slice none 0 0)=>some { eR:=qQ,T0:=[(61,.own [.bool true false,.raw (.slice none 0 0)] 146),(62,.own [.bool true false,.aG 66 true 0 3 8] 146),(66,.own Ed 196),(18,.fP [.int true .i64 40])],vl:=[(61,.lab l1 0),(62,.lab l2 0),(66,.lab lp 0)],e0:={ val:=.ptr 61 true 0,wr:=[(61,.own [.bool true false,.raw (.slice none 0 0)] 146),(62,.own [.bool true false,.aG 66 true 0 3 8] 146),(66,.own Ed 196)] } }
     | .aG lw true 0 n cap=>match T lw with
       | some (.own cs 196)=>match cX .u64 cs with
         | some [a0,a1,_,_,_,_]=>match Nat.beq cap 6,Nat.beq n 1,Nat.beq n 2 with
           | true,true,_=>some { eR:=qQ,T0:=[(61,.own [.bool true false,.aG 63 true 0 1 6] 146),(62,.own [.bool true false,.aG 66 true 0 3 8] 146),(63,.own (wc [a0,0,0,0,0,0]) 196),(66,.own Ed 196),(18,.fP [.int true .i64 40])],vl:=[(61,.lab l1 0),(62,.lab l2 0),(63,.lab lw 0),(66,.lab lp 0)],e0:={ val:=.ptr 61 true 0,wr:=[(61,.own [.bool true false,.aG 63 false 0 (ln (a0%bA)) 6] 146),(63,.own (wc [w0 (a0%bA),w1 (a0%bA),w2 (a0%bA),0,0,0]) 196),(62,.own [.bool true false,.aG 66 true 0 3 8] 146),(66,.own Ed 196)] },conds:=[U a0,a0≠0] }
           | true,_,true=>some { eR:=qQ,T0:=[(61,.own [.bool true false,.aG 63 true 0 2 6] 146),(62,.own [.bool true false,.aG 66 true 0 3 8] 146),(63,.own (wc [a0,a1,0,0,0,0]) 196),(66,.own Ed 196),(18,.fP [.int true .i64 40])],vl:=[(61,.lab l1 0),(62,.lab l2 0),(63,.lab lw 0),(66,.lab lp 0)],e0:={ val:=.ptr 61 true 0,wr:=[(61,.own [.bool true false,.aG 63 false 0 (ln ((a0+18446744073709551616*a1)%bA)) 6] 146),(63,.own (wc [w0 ((a0+18446744073709551616*a1)%bA),w1 ((a0+18446744073709551616*a1)%bA),w2 ((a0+18446744073709551616*a1)%bA),0,0,0]) 196),(62,.own [.bool true false,.aG 66 true 0 3 8] 146),(66,.own Ed 196)] },conds:=[U a0,U a1,a1≠0] }
           | _,_,_=>none
         | some [a0,a1,a2,_,_,_,_]=>match Nat.beq cap 7,Nat.beq n 2,Nat.beq n 3 with
           | true,true,_=>some { eR:=qQ,T0:=[(61,.own [.bool true false,.aG 63 true 0 2 7] 146),(62,.own [.bool true false,.aG 66 true 0 3 8] 146),(63,.own (wc [a0,a1,0,0,0,0,0]) 196),(66,.own Ed 196),(18,.fP [.int true .i64 40])],vl:=[(61,.lab l1 0),(62,.lab l2 0),(63,.lab lw 0),(66,.lab lp 0)],e0:={ val:=.ptr 61 true 0,wr:=[(61,.own [.bool true false,.aG 63 false 0 (ln ((a0+18446744073709551616*a1)%bA)) 7] 146),(63,.own (wc [w0 ((a0+18446744073709551616*a1)%bA),w1 ((a0+18446744073709551616*a1)%bA),w2 ((a0+18446744073709551616*a1)%bA),0,0,0,0]) 196),(62,.own [.bool true false,.aG 66 true 0 3 8] 146),(66,.own Ed 196)] },conds:=[U a0,U a1,a1≠0] }
           | true,_,true=>some { eR:=qQ,T0:=[(61,.own [.bool true false,.aG 63 true 0 3 7] 146),(62,.own [.bool true false,.aG 66 true 0 3 8] 146),(63,.own (wc [a0,a1,a2,0,0,0,0]) 196),(66,.own Ed 196),(18,.fP [.int true .i64 40])],vl:=[(61,.lab l1 0),(62,.lab l2 0),(63,.lab lw 0),(66,.lab lp 0)],e0:={ val:=.ptr 61 true 0,wr:=[(61,.own [.bool true false,.aG 63 false 0 (ln (n3 a0 a1 a2%bA)) 7] 146),(63,.own (wc [w0 (n3 a0 a1 a2%bA),w1 (n3 a0 a1 a2%bA),w2 (n3 a0 a1 a2%bA),0,0,0,0]) 196),(62,.own [.bool true false,.aG 66 true 0 3 8] 146),(66,.own Ed 196)] },conds:=[U a0,U a1,U a2,a2≠0] }
           | _,_,_=>none
         | some [a0,a1,a2,a3,_,_,_,_]=>match Nat.beq cap 8,Nat.beq n 3,Nat.beq n 4 with
           | true,true,_=>some { eR:=qQ,T0:=[(61,.own [.bool true false,.aG 63 true 0 3 8] 146),(62,.own [.bool true false,.aG 66 true 0 3 8] 146),(63,.own (wc [a0,a1,a2,0,0,0,0,0]) 196),(66,.own Ed 196),(18,.fP [.int true .i64 40])],vl:=[(61,.lab l1 0),(62,.lab l2 0),(63,.lab lw 0),(66,.lab lp 0)],e0:={ val:=.ptr 61 true 0,wr:=[(61,.own [.bool true false,.aG 63 false 0 (ln (n3 a0 a1 a2%bA)) 8] 146),(63,.own (wc [w0 (n3 a0 a1 a2%bA),w1 (n3 a0 a1 a2%bA),w2 (n3 a0 a1 a2%bA),0,0,0,0,0]) 196),(62,.own [.bool true false,.aG 66 true 0 3 8] 146),(66,.own Ed 196)] },conds:=[U a0,U a1,U a2,a2≠0] }
           | true,_,true=>some { eR:=qQ,T0:=[(61,.own [.bool true false,.aG 63 true 0 4 8] 146),(62,.own [.bool true false,.aG 66 true 0 3 8] 146),(63,.own (wc [a0,a1,a2,a3,0,0,0,0]) 196),(66,.own Ed 196),(18,.fP [.int true .i64 40])],vl:=[(61,.lab l1 0),(62,.lab l2 0),(63,.lab lw 0),(66,.lab lp 0)],e0:={ val:=.ptr 61 true 0,wr:=[(61,.own [.bool true false,.aG 63 false 0 (ln (n4 a0 a1 a2 a3%bA)) 8] 146),(63,.own (wc [w0 (n4 a0 a1 a2 a3%bA),w1 (n4 a0 a1 a2 a3%bA),w2 (n4 a0 a1 a2 a3%bA),0,0,0,0,0]) 196),(62,.own [.bool true false,.aG 66 true 0 3 8] 146),(66,.own Ed 196)] },conds:=[U a0,U a1,U a2,U a3,a3≠0] }
           | _,_,_=>none
         | some [a0,a1,a2,a3,_,_,_,_,_]=>match Nat.beq cap 9,Nat.beq n 4 with
           | true,true=>some { eR:=qQ,T0:=[(61,.own [.bool true false,.aG 63 true 0 4 9] 146),(62,.own [.bool true false,.aG 66 true 0 3 8] 146),(63,.own (wc [a0,a1,a2,a3,0,0,0,0,0]) 196),(66,.own Ed 196),(18,.fP [.int true .i64 40])],vl:=[(61,.lab l1 0),(62,.lab l2 0),(63,.lab lw 0),(66,.lab lp 0)],e0:={ val:=.ptr 61 true 0,wr:=[(61,.own [.bool true false,.aG 63 false 0 (ln (n4 a0 a1 a2 a3%bA)) 9] 146),(63,.own (wc [w0 (n4 a0 a1 a2 a3%bA),w1 (n4 a0 a1 a2 a3%bA),w2 (n4 a0 a1 a2 a3%bA),0,0,0,0,0,0]) 196),(62,.own [.bool true false,.aG 66 true 0 3 8] 146),(66,.own Ed 196)] },conds:=[U a0,U a1,U a2,U a3,a3≠0] }
           | _,_=>none
         | _=>none
       | _=>none
     | _=>none
   | _,_,_=>none
 | _=>none
open M in
theorem aSm (Γ:Env) (hg:Γ.aR=aB):aH Tryz.prog Γ 138 (aK aB 100 GI):=by
 refine aW hg fun vs T c hd hc=>?_
 unfold GI at hd
 split at hd
 case h_2=>cases hd
 split at hd
 case h_2=>cases hd
 split at hd
 case h_3=>cases hd
 .cases hd
  have hs:aH Tryz.prog (env (pD true 0 0) 22) 138 (aJ (env (pD true 0 0) 22) Tryz.f138 true [] 400):=aM (bQ _ 22) (bW _ (nR true 0 0) 22) mix Tryz.func138 (by kernel_rfl) true [] 400
  exact (((hs.call (md0 0) (by simp)).bE 62 _ rfl (by decide)).bE 66 _ rfl (by decide)).words (by rw [hg];rfl) (fun _=>rfl) (fun _ _ h=>h) (fun _=>rfl) rfl rfl
 split at hd
 case h_2=>cases hd
 split at hd
 case h_5=>cases hd
 .rename_i a0 a1 _ _ _ _ _
  split at hd
  case h_3=>cases hd
  .cases hd
   exact (((Su (hc _ (by simp)) (hc _ (by simp))).bE 62 _ rfl (by decide)).bE 66 _ rfl (by decide)).words (by rw [hg];rfl) (fun _=>rfl) (fun _ _ h=>h) (fun _=>rfl) rfl rfl
  .cases hd
   exact (((Ss (hc _ (by simp)) (hc _ (by simp)) (hc _ (by simp))).bE 62 _ rfl (by decide)).bE 66 _ rfl (by decide)).words (by rw [hg];rfl) (fun _=>rfl) (fun _ _ h=>h) (fun _=>rfl) rfl rfl
 .rename_i a0 a1 a2 _ _ _ _ _
  split at hd
  case h_3=>cases hd
  .cases hd
   exact (((Sr (hc _ (by simp)) (hc _ (by simp)) (hc _ (by simp))).bE 62 _ rfl (by decide)).bE 66 _ rfl (by decide)).words (by rw [hg];rfl) (fun _=>rfl) (fun _ _ h=>h) (fun _=>rfl) rfl rfl
  .cases hd
   have h3:a2≠0:=hc _ (by simp)
   have u0:U a0:=hc _ (by simp)
   have u1:U a1:=hc _ (by simp)
   have u2:U a2:=hc _ (by simp)
   by_cases hp:n3 a0 a1 a2<bA
   .exact (((Sq u0 u1 u2 h3 hp).bE 62 _ rfl (by decide)).bE 66 _ rfl (by decide)).words (by rw [hg];rfl) (fun _=>rfl) (fun _ _ h=>h) (fun _=>rfl) rfl rfl
   .exact (((Gx (.inl rfl) u0 u1 u2 (by omega)).bE 62 _ rfl (by decide)).bE 66 _ rfl (by decide)).words (by rw [hg];rfl) (fun _=>rfl) (fun _ _ h=>h) (fun _=>rfl) rfl rfl
 .rename_i a0 a1 a2 a3 _ _ _ _ _
  split at hd
  case h_3=>cases hd
  .cases hd
   have h3:a2≠0:=hc _ (by simp)
   have u0:U a0:=hc _ (by simp)
   have u1:U a1:=hc _ (by simp)
   have u2:U a2:=hc _ (by simp)
   by_cases hp:n3 a0 a1 a2<bA
   .exact (((Sp u0 u1 u2 h3 hp).bE 62 _ rfl (by decide)).bE 66 _ rfl (by decide)).words (by rw [hg];rfl) (fun _=>rfl) (fun _ _ h=>h) (fun _=>rfl) rfl rfl
   .exact (((Gx (.inr rfl) u0 u1 u2 (by omega)).bE 62 _ rfl (by decide)).bE 66 _ rfl (by decide)).words (by rw [hg];rfl) (fun _=>rfl) (fun _ _ h=>h) (fun _=>rfl) rfl rfl
  .cases hd
   have h3:a3≠0:=hc _ (by simp)
   have u0:U a0:=hc _ (by simp)
   have u1:U a1:=hc _ (by simp)
   have u2:U a2:=hc _ (by simp)
   have u3:U a3:=hc _ (by simp)
   have hp:bA<=n4 a0 a1 a2 a3:=by
    have:=u0.1;have:=u1.1;have:=u2.1;have:=u3.1
    unfold bA n4;omega
   exact (((Gw (.inl rfl) u0 u1 u2 u3 hp).bE 62 _ rfl (by decide)).bE 66 _ rfl (by decide)).words (by rw [hg];rfl) (fun _=>rfl) (fun _ _ h=>h) (fun _=>rfl) rfl rfl
 .rename_i a0 a1 a2 a3 _ _ _ _ _ _
  split at hd
  case h_2=>cases hd
  .cases hd
   have h3:a3≠0:=hc _ (by simp)
   have u0:U a0:=hc _ (by simp)
   have u1:U a1:=hc _ (by simp)
   have u2:U a2:=hc _ (by simp)
   have u3:U a3:=hc _ (by simp)
   have hp:bA<=n4 a0 a1 a2 a3:=by
    have:=u0.1;have:=u1.1;have:=u2.1;have:=u3.1
    unfold bA n4;omega
   exact (((Gw (.inr rfl) u0 u1 u2 u3 hp).bE 62 _ rfl (by decide)).bE 66 _ rfl (by decide)).words (by rw [hg];rfl) (fun _=>rfl) (fun _ _ h=>h) (fun _=>rfl) rfl rfl
noncomputable def aGp:Nat->Option Sum:=dM Ye 138 (aK aB 100 GI)
theorem Xc:∀ f S,aGp f=some S->∀ Γ:Env,Γ.aR=aB->aH Tryz.prog Γ f S:=bD pK 138 _ aSm
noncomputable def Ih (iq ir:Nat):Nat->Option Sum:=dM Ye 186 (aK aB 100 (tD iq ir))
theorem Jn (iq ir:Nat):∀ f S,Ih iq ir f=some S->∀ Γ:Env,Γ.aR=aB->aH Tryz.prog Γ f S:=bD pK 186 _ (Cj iq ir)
def bc (xs:List Int):List SV:=xs.map (.int false .u8)
noncomputable def aJw (bs:List Int):Option bJ:=aJ (env (Ih 0 3) 22) Tryz.f91 true [] 400 [.cP 61 0 17 0] (fun l=>look l [(61,.row 1 (bc bs) 5)]) 100 100
noncomputable def xG (iq:Nat) (o c:Nat) (bs:List Int):Option bJ:=aJ (env (Ih iq 0) 22) Tryz.f91 true [] 400 [.aG 61 true o 16 c] (fun l=>look l [(61,.fP (bc bs))]) 100 100
namespace M
def iP (b0 b1 b2 b3 b4 b5 b6 b7:Int):Int:=kN .u64 (kN .u64 (kN .u64 (kN .u64 (kN .u64 (kN .u64 (kN .u64 (IntKind.u64.wrap b0) (dI .u64 (IntKind.u64.wrap b1) 8)) (dI .u64 (IntKind.u64.wrap b2) 16)) (dI .u64 (IntKind.u64.wrap b3) 24)) (dI .u64 (IntKind.u64.wrap b4) 32)) (dI .u64 (IntKind.u64.wrap b5) 40)) (dI .u64 (IntKind.u64.wrap b6) 48)) (dI .u64 (IntKind.u64.wrap b7) 56)
end M
theorem n17 (b0 b1 b2 b3 b4 b5 b6 b7 b8 b9 dC dB dA dH dG gN iW:Int) :
 aJw [b0,b1,b2,b3,b4,b5,b6,b7,b8,b9,dC,dB,dA,dH,dG,gN,iW] =
 sh (IntKind.u64.wrap iW) fun z0=>
 some {bM:=([M.nl [M.iP b0 b1 b2 b3 b4 b5 b6 b7,M.iP b8 b9 dC dB dA dH dG gN,kN .u64 0 (dI .u64 z0 0)]=3,[M.iP b0 b1 b2 b3 b4 b5 b6 b7,M.iP b8 b9 dC dB dA dH dG gN,kN .u64 0 (dI .u64 z0 0),0,0,0,0]=[M.iP b0 b1 b2 b3 b4 b5 b6 b7,M.iP b8 b9 dC dB dA dH dG gN,kN .u64 0 (dI .u64 z0 0),0,0,0,0]]:List Prop),val:=.ptr 100 true 0,new:=[.own [.bool true false,.aG 101 true 0 3 7] 146,.own [.int false .u64 (M.iP b0 b1 b2 b3 b4 b5 b6 b7),.int false .u64 (M.iP b8 b9 dC dB dA dH dG gN),.int false .u64 (kN .u64 0 (dI .u64 z0 0)),.int false .u64 0,.int false .u64 0,.int false .u64 0,.int false .u64 0] 196]}:=by kernel_rfl
theorem ZB (b0 b1 b2 b3 b4 b5 b6 b7 b8 b9 dC dB dA dH dG gN iW mL mK mJ mI mH mG mF mE mD mC mB mA lZ lY lX:Int) :
 xG 0 0 32 [b0,b1,b2,b3,b4,b5,b6,b7,b8,b9,dC,dB,dA,dH,dG,gN,iW,mL,mK,mJ,mI,mH,mG,mF,mE,mD,mC,mB,mA,lZ,lY,lX] =
 some {bM:=([M.nl [M.iP b0 b1 b2 b3 b4 b5 b6 b7,M.iP b8 b9 dC dB dA dH dG gN]=0,[M.iP b0 b1 b2 b3 b4 b5 b6 b7,M.iP b8 b9 dC dB dA dH dG gN,0,0,0,0]=[M.iP b0 b1 b2 b3 b4 b5 b6 b7,M.iP b8 b9 dC dB dA dH dG gN,0,0,0,0]]:List Prop),val:=.ptr 100 true 0,new:=[.own [.bool true false,.aG 101 true 0 0 6] 146,.own [.int false .u64 (M.iP b0 b1 b2 b3 b4 b5 b6 b7),.int false .u64 (M.iP b8 b9 dC dB dA dH dG gN),.int false .u64 0,.int false .u64 0,.int false .u64 0,.int false .u64 0] 196]}:=by kernel_rfl
theorem LL (b0 b1 b2 b3 b4 b5 b6 b7 b8 b9 dC dB dA dH dG gN iW mL mK mJ mI mH mG mF mE mD mC mB mA lZ lY lX:Int) :
 xG 0 16 16 [b0,b1,b2,b3,b4,b5,b6,b7,b8,b9,dC,dB,dA,dH,dG,gN,iW,mL,mK,mJ,mI,mH,mG,mF,mE,mD,mC,mB,mA,lZ,lY,lX] =
 some {bM:=([M.nl [M.iP iW mL mK mJ mI mH mG mF,M.iP mE mD mC mB mA lZ lY lX]=0,[M.iP iW mL mK mJ mI mH mG mF,M.iP mE mD mC mB mA lZ lY lX,0,0,0,0]=[M.iP iW mL mK mJ mI mH mG mF,M.iP mE mD mC mB mA lZ lY lX,0,0,0,0]]:List Prop),val:=.ptr 100 true 0,new:=[.own [.bool true false,.aG 101 true 0 0 6] 146,.own [.int false .u64 (M.iP iW mL mK mJ mI mH mG mF),.int false .u64 (M.iP mE mD mC mB mA lZ lY lX),.int false .u64 0,.int false .u64 0,.int false .u64 0,.int false .u64 0] 196]}:=by kernel_rfl
theorem ZA (b0 b1 b2 b3 b4 b5 b6 b7 b8 b9 dC dB dA dH dG gN iW mL mK mJ mI mH mG mF mE mD mC mB mA lZ lY lX:Int) :
 xG 1 0 32 [b0,b1,b2,b3,b4,b5,b6,b7,b8,b9,dC,dB,dA,dH,dG,gN,iW,mL,mK,mJ,mI,mH,mG,mF,mE,mD,mC,mB,mA,lZ,lY,lX] =
 some {bM:=([M.nl [M.iP b0 b1 b2 b3 b4 b5 b6 b7,M.iP b8 b9 dC dB dA dH dG gN]=1,[M.iP b0 b1 b2 b3 b4 b5 b6 b7,M.iP b8 b9 dC dB dA dH dG gN,0,0,0,0]=[M.iP b0 b1 b2 b3 b4 b5 b6 b7,M.iP b8 b9 dC dB dA dH dG gN,0,0,0,0]]:List Prop),val:=.ptr 100 true 0,new:=[.own [.bool true false,.aG 101 true 0 1 6] 146,.own [.int false .u64 (M.iP b0 b1 b2 b3 b4 b5 b6 b7),.int false .u64 (M.iP b8 b9 dC dB dA dH dG gN),.int false .u64 0,.int false .u64 0,.int false .u64 0,.int false .u64 0] 196]}:=by kernel_rfl
theorem LK (b0 b1 b2 b3 b4 b5 b6 b7 b8 b9 dC dB dA dH dG gN iW mL mK mJ mI mH mG mF mE mD mC mB mA lZ lY lX:Int) :
 xG 1 16 16 [b0,b1,b2,b3,b4,b5,b6,b7,b8,b9,dC,dB,dA,dH,dG,gN,iW,mL,mK,mJ,mI,mH,mG,mF,mE,mD,mC,mB,mA,lZ,lY,lX] =
 some {bM:=([M.nl [M.iP iW mL mK mJ mI mH mG mF,M.iP mE mD mC mB mA lZ lY lX]=1,[M.iP iW mL mK mJ mI mH mG mF,M.iP mE mD mC mB mA lZ lY lX,0,0,0,0]=[M.iP iW mL mK mJ mI mH mG mF,M.iP mE mD mC mB mA lZ lY lX,0,0,0,0]]:List Prop),val:=.ptr 100 true 0,new:=[.own [.bool true false,.aG 101 true 0 1 6] 146,.own [.int false .u64 (M.iP iW mL mK mJ mI mH mG mF),.int false .u64 (M.iP mE mD mC mB mA lZ lY lX),.int false .u64 0,.int false .u64 0,.int false .u64 0,.int false .u64 0] 196]}:=by kernel_rfl
theorem YZ (b0 b1 b2 b3 b4 b5 b6 b7 b8 b9 dC dB dA dH dG gN iW mL mK mJ mI mH mG mF mE mD mC mB mA lZ lY lX:Int) :
 xG 2 0 32 [b0,b1,b2,b3,b4,b5,b6,b7,b8,b9,dC,dB,dA,dH,dG,gN,iW,mL,mK,mJ,mI,mH,mG,mF,mE,mD,mC,mB,mA,lZ,lY,lX] =
 some {bM:=([M.nl [M.iP b0 b1 b2 b3 b4 b5 b6 b7,M.iP b8 b9 dC dB dA dH dG gN]=2,[M.iP b0 b1 b2 b3 b4 b5 b6 b7,M.iP b8 b9 dC dB dA dH dG gN,0,0,0,0]=[M.iP b0 b1 b2 b3 b4 b5 b6 b7,M.iP b8 b9 dC dB dA dH dG gN,0,0,0,0]]:List Prop),val:=.ptr 100 true 0,new:=[.own [.bool true false,.aG 101 true 0 2 6] 146,.own [.int false .u64 (M.iP b0 b1 b2 b3 b4 b5 b6 b7),.int false .u64 (M.iP b8 b9 dC dB dA dH dG gN),.int false .u64 0,.int false .u64 0,.int false .u64 0,.int false .u64 0] 196]}:=by kernel_rfl
theorem LJ (b0 b1 b2 b3 b4 b5 b6 b7 b8 b9 dC dB dA dH dG gN iW mL mK mJ mI mH mG mF mE mD mC mB mA lZ lY lX:Int) :
 xG 2 16 16 [b0,b1,b2,b3,b4,b5,b6,b7,b8,b9,dC,dB,dA,dH,dG,gN,iW,mL,mK,mJ,mI,mH,mG,mF,mE,mD,mC,mB,mA,lZ,lY,lX] =
 some {bM:=([M.nl [M.iP iW mL mK mJ mI mH mG mF,M.iP mE mD mC mB mA lZ lY lX]=2,[M.iP iW mL mK mJ mI mH mG mF,M.iP mE mD mC mB mA lZ lY lX,0,0,0,0]=[M.iP iW mL mK mJ mI mH mG mF,M.iP mE mD mC mB mA lZ lY lX,0,0,0,0]]:List Prop),val:=.ptr 100 true 0,new:=[.own [.bool true false,.aG 101 true 0 2 6] 146,.own [.int false .u64 (M.iP iW mL mK mJ mI mH mG mF),.int false .u64 (M.iP mE mD mC mB mA lZ lY lX),.int false .u64 0,.int false .u64 0,.int false .u64 0,.int false .u64 0] 196]}:=by kernel_rfl
noncomputable def zH (h:List Bool):Nat->Option Sum:=Fe (dM aGp 186 (aK aB 100 (tD 0 3))) 194 h
theorem vB (h:List Bool):∀ f S,zH h f=some S->∀ Γ:Env,Γ.aR=aB->aH Tryz.prog Γ f S:=nS (bD Xc 186 _ (Cj 0 3)) 194 h
def jG:List SV:=[.agg [.ptr 62 true 0],.ptr 61 true 0,.ptr 63 true 0]
def sK (X Y:SV) (xs ys:List SV):List (Nat × SB):=[(61,.own [.bool true false,X] 146),(62,.own [.bool true false,.aG 66 true 0 3 8] 146),(63,.own [.bool true false,Y] 146),(64,.fP xs),(65,.own ys 196),(66,.own Ed 196),(17,.fP [.int true .i64 40]),(18,.fP [.int true .i64 40])]
noncomputable def Gf (h:List Bool) (X:SV) (xs ys:List SV):Option bJ:=aJ (env (zH h) 22) Tryz.f95 true [] 400 jG (fun l=>look l (sK X (.aG 65 true 0 3 7) xs ys)) 100 100
def ww (x:Int) (r:List SV):List SV:=.int false .u64 x::r
namespace M
def az (p z c:Int):Int:=ul (ul (p+z)+c+0)
def ac (p z c:Int):Int:=IntKind.u64.wrap (uh (ul (p+z)+c+0)+uh (p+z))
def q0 (x0 y:Int):Int:=az (x0*y) 0 0
def k0 (x0 y:Int):Int:=ac (x0*y) 0 0
def q1 (x0 x1 y:Int):Int:=az (x1*y) 0 (k0 x0 y)
def k1 (x0 x1 y:Int):Int:=ac (x1*y) 0 (k0 x0 y)
def q2 (x0 x1 x2 y:Int):Int:=az (x2*y) 0 (k1 x0 x1 y)
def k2 (x0 x1 x2 y:Int):Int:=ac (x2*y) 0 (k1 x0 x1 y)
def r0 (x0 x1 y0 y1:Int):Int:=az (x0*y1) (q1 x0 x1 y0) 0
def Hm (x0 x1 y0 y1:Int):Int:=ac (x0*y1) (q1 x0 x1 y0) 0
def r1 (x0 x1 x2 y0 y1:Int):Int:=az (x1*y1) (q2 x0 x1 x2 y0) (Hm x0 x1 y0 y1)
def s1' (x0 x1 x2 y0 y1:Int):Int:=ac (x1*y1) (q2 x0 x1 x2 y0) (Hm x0 x1 y0 y1)
def r2 (x0 x1 x2 y0 y1:Int):Int:=az (x2*y1) (k2 x0 x1 x2 y0) (s1' x0 x1 x2 y0 y1)
def RU (x0 x1 x2 y0 y1:Int):Int:=ac (x2*y1) (k2 x0 x1 x2 y0) (s1' x0 x1 x2 y0 y1)
def e1 (x0 x1 y0 y1:Int):Int:=az (x1*y1) (k1 x0 x1 y0) (Hm x0 x1 y0 y1)
def f1 (x0 x1 y0 y1:Int):Int:=ac (x1*y1) (k1 x0 x1 y0) (Hm x0 x1 y0 y1)
def g0 (x0 y0:Int):Int:=ul (x0+y0+0)
def c0 (x0 y0:Int):Int:=uh (x0+y0+0)
def g1 (x0 x1 y0 y1:Int):Int:=ul (x1+y1+c0 x0 y0)
def c1 (x0 x1 y0 y1:Int):Int:=uh (x1+y1+c0 x0 y0)
def g2 (x0 x1 x2 y0 y1 y2:Int):Int:=ul (x2+y2+c1 x0 x1 y0 y1)
def c2 (x0 x1 x2 y0 y1 y2:Int):Int:=uh (x2+y2+c1 x0 x1 y0 y1)
end M
def wS:List (Nat × SB):=[(62,.own [.bool true false,.aG 66 true 0 3 8] 146),(66,.own Ed 196)]
theorem aZv (ca:Nat) (xs:List SV) (y0 y1 y2:Int) (ys:List SV) :
 Gf [] (.aG 64 true 0 0 ca) xs (ww y0 (ww y1 (ww y2 ys))) =
 sh (M.n3 y0 y1 y2%M.bA) fun z0=>
 some {bM:=([M.U y0,M.U y1,M.U y2,y2≠0,[y0,y1,y2,0,0,0,0]=[y0,y1,y2,0,0,0,0]]:List Prop),val:=.ptr 100 true 0,new:=[.own [.bool true false,.aG 101 false 0 (M.ln z0) 7] 146,.own [.int false .u64 (M.w0 z0),.int false .u64 (M.w1 z0),.int false .u64 (M.w2 z0),.int false .u64 0,.int false .u64 0,.int false .u64 0,.int false .u64 0] 196],wr:=wS}:=by kernel_rfl
theorem aZu {ca:Nat} (lB:ca=6\/ca=7\/ca=8\/ca=9) (x0:Int) (xs:List SV) (y0 y1 y2:Int) (ys:List SV) :
 Gf [true] (.aG 64 true 0 1 ca) (ww x0 xs) (ww y0 (ww y1 (ww y2 ys))) =
 sh (y1+M.c0 y0 x0+0) fun z0=>
 sh (M.n3 (M.g0 y0 x0) (M.ul z0) y2%M.bA) fun z1=>
 some {bM:=([M.U (M.g0 y0 x0),M.U (M.ul z0),M.U y2,y2≠0,[M.g0 y0 x0,M.ul z0,y2,0,0,0,0,0]=[M.g0 y0 x0,M.ul z0,y2,0,0,0,0,0],M.nl [M.g0 y0 x0,M.ul z0,y2,0]=3,[M.g0 y0 x0,M.ul z0,y2,0,0,0,0,0]=[M.g0 y0 x0,M.ul z0,y2,0,0,0,0,0],(M.uh z0==0)=true,M.U y1,M.U (M.c0 y0 x0),M.K 0,y1=y1,M.c0 y0 x0=M.c0 y0 x0,(0 :Int)=0,M.U y0,M.U x0,M.K 0,y0=y0,x0=x0,(0 :Int)=0]:List Prop),val:=.ptr 100 true 0,new:=[.own [.bool true false,.aG 101 false 0 (M.ln z1) 8] 146,.own [.int false .u64 (M.w0 z1),.int false .u64 (M.w1 z1),.int false .u64 (M.w2 z1),.int false .u64 0,.int false .u64 0,.int false .u64 0,.int false .u64 0,.int false .u64 0] 196],wr:=wS}:=by rcases lB with rfl | rfl | rfl | rfl <;> kernel_rfl
theorem aTv {ca:Nat} (lB:ca=6\/ca=7\/ca=8\/ca=9) (x0:Int) (xs:List SV) (y0 y1 y2:Int) (ys:List SV) :
 Gf [false,true] (.aG 64 true 0 1 ca) (ww x0 xs) (ww y0 (ww y1 (ww y2 ys))) =
 sh (y1+M.c0 y0 x0+0) fun z1=>
 sh (IntKind.u64.wrap (y2+1)) fun z2=>
 sh (M.n3 (M.g0 y0 x0) (M.ul z1) z2%M.bA) fun z0=>
 some {bM:=([M.U (M.g0 y0 x0),M.U (M.ul z1),M.U z2,IntKind.u64.wrap (y2+1)≠0,[M.g0 y0 x0,M.ul z1,IntKind.u64.wrap (y2+1),0,0,0,0,0]=[M.g0 y0 x0,M.ul z1,IntKind.u64.wrap (y2+1),0,0,0,0,0],M.nl [M.g0 y0 x0,M.ul z1,IntKind.u64.wrap (y2+1),0]=3,[M.g0 y0 x0,M.ul z1,IntKind.u64.wrap (y2+1),0,0,0,0,0]=[M.g0 y0 x0,M.ul z1,IntKind.u64.wrap (y2+1),0,0,0,0,0],(y2 != 18446744073709551615)=true,(M.uh z1==0)=false,M.U y1,M.U (M.c0 y0 x0),M.K 0,y1=y1,M.c0 y0 x0=M.c0 y0 x0,(0 :Int)=0,M.U y0,M.U x0,M.K 0,y0=y0,x0=x0,(0 :Int)=0]:List Prop),val:=.ptr 100 true 0,new:=[.own [.bool true false,.aG 101 false 0 (M.ln z0) 8] 146,.own [.int false .u64 (M.w0 z0),.int false .u64 (M.w1 z0),.int false .u64 (M.w2 z0),.int false .u64 0,.int false .u64 0,.int false .u64 0,.int false .u64 0,.int false .u64 0] 196],wr:=wS}:=by rcases lB with rfl | rfl | rfl | rfl <;> kernel_rfl
theorem aZt {ca:Nat} (lB:ca=6\/ca=7\/ca=8\/ca=9) (x0 x1:Int) (xs:List SV) (y0 y1 y2:Int) (ys:List SV) :
 Gf [true] (.aG 64 true 0 2 ca) (ww x0 (ww x1 xs)) (ww y0 (ww y1 (ww y2 ys))) =
 sh (y2+M.c1 y0 y1 x0 x1+0) fun z0=>
 sh (M.n3 (M.g0 y0 x0) (M.g1 y0 y1 x0 x1) (M.ul z0)%M.bA) fun z1=>
 some {bM:=([M.U (M.g0 y0 x0),M.U (M.g1 y0 y1 x0 x1),M.U (M.ul z0),M.ul z0≠0,[M.g0 y0 x0,M.g1 y0 y1 x0 x1,M.ul z0,0,0,0,0,0]=[M.g0 y0 x0,M.g1 y0 y1 x0 x1,M.ul z0,0,0,0,0,0],M.nl [M.g0 y0 x0,M.g1 y0 y1 x0 x1,M.ul z0,0]=3,[M.g0 y0 x0,M.g1 y0 y1 x0 x1,M.ul z0,0,0,0,0,0]=[M.g0 y0 x0,M.g1 y0 y1 x0 x1,M.ul z0,0,0,0,0,0],(M.uh z0==0)=true,M.U y2,M.U (M.c1 y0 y1 x0 x1),M.K 0,y2=y2,M.c1 y0 y1 x0 x1=M.c1 y0 y1 x0 x1,(0 :Int)=0,M.U y1,M.U x1,M.K (M.c0 y0 x0),y1=y1,x1=x1,M.c0 y0 x0=M.c0 y0 x0,M.U y0,M.U x0,M.K 0,y0=y0,x0=x0,(0 :Int)=0]:List Prop),val:=.ptr 100 true 0,new:=[.own [.bool true false,.aG 101 false 0 (M.ln z1) 8] 146,.own [.int false .u64 (M.w0 z1),.int false .u64 (M.w1 z1),.int false .u64 (M.w2 z1),.int false .u64 0,.int false .u64 0,.int false .u64 0,.int false .u64 0,.int false .u64 0] 196],wr:=wS}:=by rcases lB with rfl | rfl | rfl | rfl <;> kernel_rfl
theorem aZs {ca:Nat} (lB:ca=6\/ca=7\/ca=8\/ca=9) (x0 x1 x2:Int) (xs:List SV) (y0 y1 y2:Int) (ys:List SV) :
 Gf [] (.aG 64 true 0 3 ca) (ww x0 (ww x1 (ww x2 xs))) (ww y0 (ww y1 (ww y2 ys))) =
 sh (M.g2 x0 x1 x2 y0 y1 y2) fun z1=>
 sh (M.n3 (M.g0 x0 y0) (M.g1 x0 x1 y0 y1) z1%M.bA) fun z0=>
 some {bM:=([M.U (M.g0 x0 y0),M.U (M.g1 x0 x1 y0 y1),M.U z1,M.g2 x0 x1 x2 y0 y1 y2≠0,[M.g0 x0 y0,M.g1 x0 x1 y0 y1,M.g2 x0 x1 x2 y0 y1 y2,M.c2 x0 x1 x2 y0 y1 y2,0,0,0,0]=[M.g0 x0 y0,M.g1 x0 x1 y0 y1,M.g2 x0 x1 x2 y0 y1 y2,0,0,0,0,0],M.nl [M.g0 x0 y0,M.g1 x0 x1 y0 y1,M.g2 x0 x1 x2 y0 y1 y2,M.c2 x0 x1 x2 y0 y1 y2]=3,[M.g0 x0 y0,M.g1 x0 x1 y0 y1,M.g2 x0 x1 x2 y0 y1 y2,M.c2 x0 x1 x2 y0 y1 y2,0,0,0,0]=[M.g0 x0 y0,M.g1 x0 x1 y0 y1,M.g2 x0 x1 x2 y0 y1 y2,M.c2 x0 x1 x2 y0 y1 y2,0,0,0,0],M.U x2,M.U y2,M.K (M.c1 x0 x1 y0 y1),x2=x2,y2=y2,M.c1 x0 x1 y0 y1=M.c1 x0 x1 y0 y1,M.U x1,M.U y1,M.K (M.c0 x0 y0),x1=x1,y1=y1,M.c0 x0 y0=M.c0 x0 y0,M.U x0,M.U y0,M.K 0,x0=x0,y0=y0,(0 :Int)=0]:List Prop),val:=.ptr 100 true 0,new:=[.own [.bool true false,.aG 101 false 0 (M.ln z0) 8] 146,.own [.int false .u64 (M.w0 z0),.int false .u64 (M.w1 z0),.int false .u64 (M.w2 z0),.int false .u64 0,.int false .u64 0,.int false .u64 0,.int false .u64 0,.int false .u64 0] 196],wr:=wS}:=by rcases lB with rfl | rfl | rfl | rfl <;> kernel_rfl
theorem aZr (xs:List SV) (y0 y1 y2:Int) (ys:List SV) :
 Gf [] (.raw (.slice none 0 0)) xs (ww y0 (ww y1 (ww y2 ys))) =
 sh (M.n3 y0 y1 y2%M.bA) fun z0=>
 some {bM:=([M.U y0,M.U y1,M.U y2,y2≠0,[y0,y1,y2,0,0,0,0]=[y0,y1,y2,0,0,0,0]]:List Prop),val:=.ptr 100 true 0,new:=[.own [.bool true false,.aG 101 false 0 (M.ln z0) 7] 146,.own [.int false .u64 (M.w0 z0),.int false .u64 (M.w1 z0),.int false .u64 (M.w2 z0),.int false .u64 0,.int false .u64 0,.int false .u64 0,.int false .u64 0] 196],wr:=wS}:=by kernel_rfl
noncomputable def UU (h:Bool) (iq ir:Nat):Nat->Option Sum:=Fe (Fe (dM aGp 186 (aK aB 100 (tD iq ir))) 241 [false]) 238 [h,true]
theorem aCd (h:Bool) (iq ir:Nat):∀ f S,UU h iq ir f=some S->∀ Γ:Env,Γ.aR=aB->aH Tryz.prog Γ f S:=nS (nS (bD Xc 186 _ (Cj iq ir)) 241 _) 238 _
noncomputable def iZ (h:Bool) (iq ir:Nat) (X Y:SV) (xs ys:List SV):Option bJ:=aJ (env (UU h iq ir) 22) Tryz.f97 true [] 400 jG (fun l=>look l (sK X Y xs ys)) 100 100
theorem aBi (ca ct:Nat) (xs ys:List SV) :
 iZ true 0 0 (.aG 64 true 0 0 ca) (.aG 65 true 0 0 ct) xs ys =
 some {val:=.ptr 100 true 0,new:=[.own [.bool true false,.raw (Value.slice none 0 0)] 146],wr:=wS}:=by kernel_rfl
theorem aBh (ca ct:Nat) (y0:Int) (xs ys:List SV) :
 iZ true 0 0 (.aG 64 true 0 0 ca) (.aG 65 true 0 1 ct) xs (ww y0 ys) =
 some {val:=.ptr 100 true 0,new:=[.own [.bool true false,.raw (Value.slice none 0 0)] 146],wr:=wS}:=by kernel_rfl
theorem aBg (ca ct:Nat) (y0 y1:Int) (xs ys:List SV) :
 iZ true 0 0 (.aG 64 true 0 0 ca) (.aG 65 true 0 2 ct) xs (ww y0 (ww y1 ys)) =
 some {val:=.ptr 100 true 0,new:=[.own [.bool true false,.raw (Value.slice none 0 0)] 146],wr:=wS}:=by kernel_rfl
theorem aBf (ca ct:Nat) (x0:Int) (xs ys:List SV) :
 iZ true 0 0 (.aG 64 true 0 1 ca) (.aG 65 true 0 0 ct) (ww x0 xs) ys =
 some {val:=.ptr 100 true 0,new:=[.own [.bool true false,.raw (Value.slice none 0 0)] 146],wr:=wS}:=by kernel_rfl
theorem aBe (ca ct:Nat) (x0 y0:Int) (xs ys:List SV) :
 iZ true 1 0 (.aG 64 true 0 1 ca) (.aG 65 true 0 1 ct) (ww x0 xs) (ww y0 ys) =
 sh (x0*y0+0) fun z0=>
 sh (M.ul z0%M.bA) fun z1=>
 some {bM:=([M.U (M.ul z0),M.ul z0≠0,[M.ul z0,M.uh z0,0,0,0,0]=[M.ul z0,0,0,0,0,0],M.nl [M.ul z0,M.uh z0]=1,[M.ul z0,M.uh z0,0,0,0,0]=[M.ul z0,M.uh z0,0,0,0,0],M.U x0,M.U y0,M.U 0,x0=x0,y0=y0,(0 :Int)=0,(y0==0)=false]:List Prop),val:=.ptr 100 true 0,new:=[.own [.bool true false,.aG 101 false 0 (M.ln z1) 6] 146,.own [.int false .u64 (M.w0 z1),.int false .u64 (M.w1 z1),.int false .u64 (M.w2 z1),.int false .u64 0,.int false .u64 0,.int false .u64 0] 196],wr:=wS}:=by kernel_rfl
theorem aBd (ca ct:Nat) (x0 y0:Int) (xs ys:List SV) :
 iZ true 2 0 (.aG 64 true 0 1 ca) (.aG 65 true 0 1 ct) (ww x0 xs) (ww y0 ys) =
 sh (x0*y0+0) fun z1=>
 sh ((M.ul z1+18446744073709551616*M.uh z1)%M.bA) fun z0=>
 some {bM:=([M.U (M.ul z1),M.U (M.uh z1),M.uh z1≠0,[M.ul z1,M.uh z1,0,0,0,0]=[M.ul z1,M.uh z1,0,0,0,0],M.nl [M.ul z1,M.uh z1]=2,[M.ul z1,M.uh z1,0,0,0,0]=[M.ul z1,M.uh z1,0,0,0,0],M.U x0,M.U y0,M.U 0,x0=x0,y0=y0,(0 :Int)=0,(y0==0)=false]:List Prop),val:=.ptr 100 true 0,new:=[.own [.bool true false,.aG 101 false 0 (M.ln z0) 6] 146,.own [.int false .u64 (M.w0 z0),.int false .u64 (M.w1 z0),.int false .u64 (M.w2 z0),.int false .u64 0,.int false .u64 0,.int false .u64 0] 196],wr:=wS}:=by kernel_rfl
theorem aBc (ca ct:Nat) (x0 y0 y1:Int) (xs ys:List SV) :
 iZ true 0 2 (.aG 64 true 0 1 ca) (.aG 65 true 0 2 ct) (ww x0 xs) (ww y0 (ww y1 ys)) =
 sh (y0*x0+0) fun z2=>
 sh (y1*x0+M.uh z2) fun z0=>
 sh ((M.ul z2+18446744073709551616*M.ul z0)%M.bA) fun z1=>
 some {bM:=([M.U (M.ul z2),M.U (M.ul z0),M.ul z0≠0,[M.ul z2,M.ul z0,M.uh z0,0,0,0,0]=[M.ul z2,M.ul z0,0,0,0,0,0],M.nl [M.ul z2,M.ul z0,M.uh z0]=2,[M.ul z2,M.ul z0,M.uh z0,0,0,0,0]=[M.ul z2,M.ul z0,M.uh z0,0,0,0,0],M.U y1,M.U x0,M.U (M.uh z2),y1=y1,x0=x0,M.uh z2=M.uh z2,M.U y0,M.U x0,M.U 0,y0=y0,x0=x0,(0 :Int)=0,(x0==0)=false]:List Prop),val:=.ptr 100 true 0,new:=[.own [.bool true false,.aG 101 false 0 (M.ln z1) 7] 146,.own [.int false .u64 (M.w0 z1),.int false .u64 (M.w1 z1),.int false .u64 (M.w2 z1),.int false .u64 0,.int false .u64 0,.int false .u64 0,.int false .u64 0] 196],wr:=wS}:=by kernel_rfl
theorem aBb (ca ct:Nat) (x0 y0 y1:Int) (xs ys:List SV) :
 iZ true 0 3 (.aG 64 true 0 1 ca) (.aG 65 true 0 2 ct) (ww x0 xs) (ww y0 (ww y1 ys)) =
 sh (y0*x0+0) fun z2=>
 sh (y1*x0+M.uh z2) fun z0=>
 sh (M.n3 (M.ul z2) (M.ul z0) (M.uh z0)%M.bA) fun z1=>
 some {bM:=([M.U (M.ul z2),M.U (M.ul z0),M.U (M.uh z0),M.uh z0≠0,[M.ul z2,M.ul z0,M.uh z0,0,0,0,0]=[M.ul z2,M.ul z0,M.uh z0,0,0,0,0],M.nl [M.ul z2,M.ul z0,M.uh z0]=3,[M.ul z2,M.ul z0,M.uh z0,0,0,0,0]=[M.ul z2,M.ul z0,M.uh z0,0,0,0,0],M.U y1,M.U x0,M.U (M.uh z2),y1=y1,x0=x0,M.uh z2=M.uh z2,M.U y0,M.U x0,M.U 0,y0=y0,x0=x0,(0 :Int)=0,(x0==0)=false]:List Prop),val:=.ptr 100 true 0,new:=[.own [.bool true false,.aG 101 false 0 (M.ln z1) 7] 146,.own [.int false .u64 (M.w0 z1),.int false .u64 (M.w1 z1),.int false .u64 (M.w2 z1),.int false .u64 0,.int false .u64 0,.int false .u64 0,.int false .u64 0] 196],wr:=wS}:=by kernel_rfl
theorem aBa (ca ct:Nat) (x0 x1:Int) (xs ys:List SV) :
 iZ true 0 0 (.aG 64 true 0 2 ca) (.aG 65 true 0 0 ct) (ww x0 (ww x1 xs)) ys =
 some {val:=.ptr 100 true 0,new:=[.own [.bool true false,.raw (Value.slice none 0 0)] 146],wr:=wS}:=by kernel_rfl
theorem aAz (ca ct:Nat) (x0 x1 y0:Int) (xs ys:List SV) :
 iZ true 0 2 (.aG 64 true 0 2 ca) (.aG 65 true 0 1 ct) (ww x0 (ww x1 xs)) (ww y0 ys) =
 sh (x0*y0+0) fun z2=>
 sh (x1*y0+M.uh z2) fun z0=>
 sh ((M.ul z2+18446744073709551616*M.ul z0)%M.bA) fun z1=>
 some {bM:=([M.U (M.ul z2),M.U (M.ul z0),M.ul z0≠0,[M.ul z2,M.ul z0,M.uh z0,0,0,0,0]=[M.ul z2,M.ul z0,0,0,0,0,0],M.nl [M.ul z2,M.ul z0,M.uh z0]=2,[M.ul z2,M.ul z0,M.uh z0,0,0,0,0]=[M.ul z2,M.ul z0,M.uh z0,0,0,0,0],M.U x1,M.U y0,M.U (M.uh z2),x1=x1,y0=y0,M.uh z2=M.uh z2,M.U x0,M.U y0,M.U 0,x0=x0,y0=y0,(0 :Int)=0,(y0==0)=false]:List Prop),val:=.ptr 100 true 0,new:=[.own [.bool true false,.aG 101 false 0 (M.ln z1) 7] 146,.own [.int false .u64 (M.w0 z1),.int false .u64 (M.w1 z1),.int false .u64 (M.w2 z1),.int false .u64 0,.int false .u64 0,.int false .u64 0,.int false .u64 0] 196],wr:=wS}:=by kernel_rfl
theorem aAy (ca ct:Nat) (x0 x1 y0:Int) (xs ys:List SV) :
 iZ true 0 3 (.aG 64 true 0 2 ca) (.aG 65 true 0 1 ct) (ww x0 (ww x1 xs)) (ww y0 ys) =
 sh (x0*y0+0) fun z2=>
 sh (x1*y0+M.uh z2) fun z0=>
 sh (M.n3 (M.ul z2) (M.ul z0) (M.uh z0)%M.bA) fun z1=>
 some {bM:=([M.U (M.ul z2),M.U (M.ul z0),M.U (M.uh z0),M.uh z0≠0,[M.ul z2,M.ul z0,M.uh z0,0,0,0,0]=[M.ul z2,M.ul z0,M.uh z0,0,0,0,0],M.nl [M.ul z2,M.ul z0,M.uh z0]=3,[M.ul z2,M.ul z0,M.uh z0,0,0,0,0]=[M.ul z2,M.ul z0,M.uh z0,0,0,0,0],M.U x1,M.U y0,M.U (M.uh z2),x1=x1,y0=y0,M.uh z2=M.uh z2,M.U x0,M.U y0,M.U 0,x0=x0,y0=y0,(0 :Int)=0,(y0==0)=false]:List Prop),val:=.ptr 100 true 0,new:=[.own [.bool true false,.aG 101 false 0 (M.ln z1) 7] 146,.own [.int false .u64 (M.w0 z1),.int false .u64 (M.w1 z1),.int false .u64 (M.w2 z1),.int false .u64 0,.int false .u64 0,.int false .u64 0,.int false .u64 0] 196],wr:=wS}:=by kernel_rfl
theorem aAx (ca ct:Nat) (x0 x1 y0 y1:Int) (xs ys:List SV) :
 iZ true 0 3 (.aG 64 true 0 2 ca) (.aG 65 true 0 2 ct) (ww x0 (ww x1 xs)) (ww y0 (ww y1 ys)) =
 sh (M.n3 (M.q0 x0 y0) (M.r0 x0 x1 y0 y1) (M.e1 x0 x1 y0 y1)%M.bA) fun z0=>
 sh (x1*y1+M.k1 x0 x1 y0) fun z1=>
 sh (x0*y1+M.q1 x0 x1 y0) fun z2=>
 sh (x1*y0+0) fun z3=>
 sh (x0*y0+0) fun z4=>
 some {bM:=([M.U (M.q0 x0 y0),M.U (M.r0 x0 x1 y0 y1),M.U (M.e1 x0 x1 y0 y1),M.e1 x0 x1 y0 y1≠0,[M.q0 x0 y0,M.r0 x0 x1 y0 y1,M.e1 x0 x1 y0 y1,M.f1 x0 x1 y0 y1,0,0,0,0]=[M.q0 x0 y0,M.r0 x0 x1 y0 y1,M.e1 x0 x1 y0 y1,0,0,0,0,0],M.nl [M.q0 x0 y0,M.r0 x0 x1 y0 y1,M.e1 x0 x1 y0 y1,M.f1 x0 x1 y0 y1]=3,[M.q0 x0 y0,M.r0 x0 x1 y0 y1,M.e1 x0 x1 y0 y1,M.f1 x0 x1 y0 y1,0,0,0,0]=[M.q0 x0 y0,M.r0 x0 x1 y0 y1,M.e1 x0 x1 y0 y1,M.f1 x0 x1 y0 y1,0,0,0,0],M.U (M.ul z1),M.U (M.Hm x0 x1 y0 y1),M.K 0,M.ul z1=M.ul z1,M.Hm x0 x1 y0 y1=M.Hm x0 x1 y0 y1,(0 :Int)=0,M.U x1,M.U y1,M.U (M.k1 x0 x1 y0),x1=x1,y1=y1,M.k1 x0 x1 y0=M.k1 x0 x1 y0,M.U (M.ul z2),M.U 0,M.K 0,M.ul z2=M.ul z2,(0 :Int)=0,(0 :Int)=0,M.U x0,M.U y1,M.U (M.q1 x0 x1 y0),x0=x0,y1=y1,M.q1 x0 x1 y0=M.q1 x0 x1 y0,(y1 != 0)=true,M.U (M.ul z3),M.U (M.k0 x0 y0),M.K 0,M.ul z3=M.ul z3,M.k0 x0 y0=M.k0 x0 y0,(0 :Int)=0,M.U x1,M.U y0,M.U 0,x1=x1,y0=y0,(0 :Int)=0,M.U (M.ul z4),M.U 0,M.K 0,M.ul z4=M.ul z4,(0 :Int)=0,(0 :Int)=0,M.U x0,M.U y0,M.U 0,x0=x0,y0=y0,(0 :Int)=0,(y0 != 0)=true]:List Prop),val:=.ptr 100 true 0,new:=[.own [.bool true false,.aG 101 false 0 (M.ln z0) 8] 146,.own [.int false .u64 (M.w0 z0),.int false .u64 (M.w1 z0),.int false .u64 (M.w2 z0),.int false .u64 0,.int false .u64 0,.int false .u64 0,.int false .u64 0,.int false .u64 0] 196],wr:=wS}:=by kernel_rfl
theorem MJ (ca ct:Nat) (x0 x1 y0 y1:Int) (xs ys:List SV) :
 iZ false 0 3 (.aG 64 true 0 2 ca) (.aG 65 true 0 2 ct) (ww x0 (ww x1 xs)) (ww y0 (ww y1 ys)) =
 sh (M.n3 0 (M.q0 x0 y1) (M.q1 x0 x1 y1)%M.bA) fun z0=>
 sh (x1*y1+0) fun z1=>
 sh (x0*y1+0) fun z2=>
 some {bM:=([M.U 0,M.U (M.q0 x0 y1),M.U (M.q1 x0 x1 y1),M.q1 x0 x1 y1≠0,[0,M.q0 x0 y1,M.q1 x0 x1 y1,M.k1 x0 x1 y1,0,0,0,0]=[0,M.q0 x0 y1,M.q1 x0 x1 y1,0,0,0,0,0],M.nl [0,M.q0 x0 y1,M.q1 x0 x1 y1,M.k1 x0 x1 y1]=3,[0,M.q0 x0 y1,M.q1 x0 x1 y1,M.k1 x0 x1 y1,0,0,0,0]=[0,M.q0 x0 y1,M.q1 x0 x1 y1,M.k1 x0 x1 y1,0,0,0,0],M.U (M.ul z1),M.U (M.k0 x0 y1),M.K 0,M.ul z1=M.ul z1,M.k0 x0 y1=M.k0 x0 y1,(0 :Int)=0,M.U x1,M.U y1,M.U 0,x1=x1,y1=y1,(0 :Int)=0,M.U (M.ul z2),M.U 0,M.K 0,M.ul z2=M.ul z2,(0 :Int)=0,(0 :Int)=0,M.U x0,M.U y1,M.U 0,x0=x0,y1=y1,(0 :Int)=0,(y1 != 0)=true,(y0 != 0)=false]:List Prop),val:=.ptr 100 true 0,new:=[.own [.bool true false,.aG 101 false 0 (M.ln z0) 8] 146,.own [.int false .u64 (M.w0 z0),.int false .u64 (M.w1 z0),.int false .u64 (M.w2 z0),.int false .u64 0,.int false .u64 0,.int false .u64 0,.int false .u64 0,.int false .u64 0] 196],wr:=wS}:=by kernel_rfl
theorem aAw (ca ct:Nat) (x0 x1 y0 y1:Int) (xs ys:List SV) :
 iZ true 0 4 (.aG 64 true 0 2 ca) (.aG 65 true 0 2 ct) (ww x0 (ww x1 xs)) (ww y0 (ww y1 ys)) =
 sh (M.n4 (M.q0 x0 y0) (M.r0 x0 x1 y0 y1) (M.e1 x0 x1 y0 y1) (M.f1 x0 x1 y0 y1)%M.bA) fun z0=>
 sh (x1*y1+M.k1 x0 x1 y0) fun z1=>
 sh (x0*y1+M.q1 x0 x1 y0) fun z2=>
 sh (x1*y0+0) fun z3=>
 sh (x0*y0+0) fun z4=>
 some {bM:=([M.U (M.q0 x0 y0),M.U (M.r0 x0 x1 y0 y1),M.U (M.e1 x0 x1 y0 y1),M.U (M.f1 x0 x1 y0 y1),M.f1 x0 x1 y0 y1≠0,[M.q0 x0 y0,M.r0 x0 x1 y0 y1,M.e1 x0 x1 y0 y1,M.f1 x0 x1 y0 y1,0,0,0,0]=[M.q0 x0 y0,M.r0 x0 x1 y0 y1,M.e1 x0 x1 y0 y1,M.f1 x0 x1 y0 y1,0,0,0,0],M.nl [M.q0 x0 y0,M.r0 x0 x1 y0 y1,M.e1 x0 x1 y0 y1,M.f1 x0 x1 y0 y1]=4,[M.q0 x0 y0,M.r0 x0 x1 y0 y1,M.e1 x0 x1 y0 y1,M.f1 x0 x1 y0 y1,0,0,0,0]=[M.q0 x0 y0,M.r0 x0 x1 y0 y1,M.e1 x0 x1 y0 y1,M.f1 x0 x1 y0 y1,0,0,0,0],M.U (M.ul z1),M.U (M.Hm x0 x1 y0 y1),M.K 0,M.ul z1=M.ul z1,M.Hm x0 x1 y0 y1=M.Hm x0 x1 y0 y1,(0 :Int)=0,M.U x1,M.U y1,M.U (M.k1 x0 x1 y0),x1=x1,y1=y1,M.k1 x0 x1 y0=M.k1 x0 x1 y0,M.U (M.ul z2),M.U 0,M.K 0,M.ul z2=M.ul z2,(0 :Int)=0,(0 :Int)=0,M.U x0,M.U y1,M.U (M.q1 x0 x1 y0),x0=x0,y1=y1,M.q1 x0 x1 y0=M.q1 x0 x1 y0,(y1 != 0)=true,M.U (M.ul z3),M.U (M.k0 x0 y0),M.K 0,M.ul z3=M.ul z3,M.k0 x0 y0=M.k0 x0 y0,(0 :Int)=0,M.U x1,M.U y0,M.U 0,x1=x1,y0=y0,(0 :Int)=0,M.U (M.ul z4),M.U 0,M.K 0,M.ul z4=M.ul z4,(0 :Int)=0,(0 :Int)=0,M.U x0,M.U y0,M.U 0,x0=x0,y0=y0,(0 :Int)=0,(y0 != 0)=true]:List Prop),val:=.ptr 100 true 0,new:=[.own [.bool true false,.aG 101 false 0 (M.ln z0) 8] 146,.own [.int false .u64 (M.w0 z0),.int false .u64 (M.w1 z0),.int false .u64 (M.w2 z0),.int false .u64 0,.int false .u64 0,.int false .u64 0,.int false .u64 0,.int false .u64 0] 196],wr:=wS}:=by kernel_rfl
theorem MI (ca ct:Nat) (x0 x1 y0 y1:Int) (xs ys:List SV) :
 iZ false 0 4 (.aG 64 true 0 2 ca) (.aG 65 true 0 2 ct) (ww x0 (ww x1 xs)) (ww y0 (ww y1 ys)) =
 sh (M.n4 0 (M.q0 x0 y1) (M.q1 x0 x1 y1) (M.k1 x0 x1 y1)%M.bA) fun z0=>
 sh (x1*y1+0) fun z1=>
 sh (x0*y1+0) fun z2=>
 some {bM:=([M.U 0,M.U (M.q0 x0 y1),M.U (M.q1 x0 x1 y1),M.U (M.k1 x0 x1 y1),M.k1 x0 x1 y1≠0,[0,M.q0 x0 y1,M.q1 x0 x1 y1,M.k1 x0 x1 y1,0,0,0,0]=[0,M.q0 x0 y1,M.q1 x0 x1 y1,M.k1 x0 x1 y1,0,0,0,0],M.nl [0,M.q0 x0 y1,M.q1 x0 x1 y1,M.k1 x0 x1 y1]=4,[0,M.q0 x0 y1,M.q1 x0 x1 y1,M.k1 x0 x1 y1,0,0,0,0]=[0,M.q0 x0 y1,M.q1 x0 x1 y1,M.k1 x0 x1 y1,0,0,0,0],M.U (M.ul z1),M.U (M.k0 x0 y1),M.K 0,M.ul z1=M.ul z1,M.k0 x0 y1=M.k0 x0 y1,(0 :Int)=0,M.U x1,M.U y1,M.U 0,x1=x1,y1=y1,(0 :Int)=0,M.U (M.ul z2),M.U 0,M.K 0,M.ul z2=M.ul z2,(0 :Int)=0,(0 :Int)=0,M.U x0,M.U y1,M.U 0,x0=x0,y1=y1,(0 :Int)=0,(y1 != 0)=true,(y0 != 0)=false]:List Prop),val:=.ptr 100 true 0,new:=[.own [.bool true false,.aG 101 false 0 (M.ln z0) 8] 146,.own [.int false .u64 (M.w0 z0),.int false .u64 (M.w1 z0),.int false .u64 (M.w2 z0),.int false .u64 0,.int false .u64 0,.int false .u64 0,.int false .u64 0,.int false .u64 0] 196],wr:=wS}:=by kernel_rfl
theorem aAv (ca ct:Nat) (x0 x1 x2:Int) (xs ys:List SV) :
 iZ true 0 0 (.aG 64 true 0 3 ca) (.aG 65 true 0 0 ct) (ww x0 (ww x1 (ww x2 xs))) ys =
 some {val:=.ptr 100 true 0,new:=[.own [.bool true false,.raw (Value.slice none 0 0)] 146],wr:=wS}:=by kernel_rfl
theorem aAu (ca ct:Nat) (x0 x1 x2 y0:Int) (xs ys:List SV) :
 iZ true 0 3 (.aG 64 true 0 3 ca) (.aG 65 true 0 1 ct) (ww x0 (ww x1 (ww x2 xs))) (ww y0 ys) =
 sh (x0*y0+0) fun z3=>
 sh (x1*y0+M.uh z3) fun z0=>
 sh (x2*y0+M.uh z0) fun z1=>
 sh (M.n3 (M.ul z3) (M.ul z0) (M.ul z1)%M.bA) fun z2=>
 some {bM:=([M.U (M.ul z3),M.U (M.ul z0),M.U (M.ul z1),M.ul z1≠0,[M.ul z3,M.ul z0,M.ul z1,M.uh z1,0,0,0,0]=[M.ul z3,M.ul z0,M.ul z1,0,0,0,0,0],M.nl [M.ul z3,M.ul z0,M.ul z1,M.uh z1]=3,[M.ul z3,M.ul z0,M.ul z1,M.uh z1,0,0,0,0]=[M.ul z3,M.ul z0,M.ul z1,M.uh z1,0,0,0,0],M.U x2,M.U y0,M.U (M.uh z0),x2=x2,y0=y0,M.uh z0=M.uh z0,M.U x1,M.U y0,M.U (M.uh z3),x1=x1,y0=y0,M.uh z3=M.uh z3,M.U x0,M.U y0,M.U 0,x0=x0,y0=y0,(0 :Int)=0,(y0==0)=false]:List Prop),val:=.ptr 100 true 0,new:=[.own [.bool true false,.aG 101 false 0 (M.ln z2) 8] 146,.own [.int false .u64 (M.w0 z2),.int false .u64 (M.w1 z2),.int false .u64 (M.w2 z2),.int false .u64 0,.int false .u64 0,.int false .u64 0,.int false .u64 0,.int false .u64 0] 196],wr:=wS}:=by kernel_rfl
theorem aAt (ca ct:Nat) (x0 x1 x2 y0:Int) (xs ys:List SV) :
 iZ true 0 4 (.aG 64 true 0 3 ca) (.aG 65 true 0 1 ct) (ww x0 (ww x1 (ww x2 xs))) (ww y0 ys) =
 sh (x0*y0+0) fun z3=>
 sh (x1*y0+M.uh z3) fun z0=>
 sh (x2*y0+M.uh z0) fun z1=>
 sh (M.n4 (M.ul z3) (M.ul z0) (M.ul z1) (M.uh z1)%M.bA) fun z2=>
 some {bM:=([M.U (M.ul z3),M.U (M.ul z0),M.U (M.ul z1),M.U (M.uh z1),M.uh z1≠0,[M.ul z3,M.ul z0,M.ul z1,M.uh z1,0,0,0,0]=[M.ul z3,M.ul z0,M.ul z1,M.uh z1,0,0,0,0],M.nl [M.ul z3,M.ul z0,M.ul z1,M.uh z1]=4,[M.ul z3,M.ul z0,M.ul z1,M.uh z1,0,0,0,0]=[M.ul z3,M.ul z0,M.ul z1,M.uh z1,0,0,0,0],M.U x2,M.U y0,M.U (M.uh z0),x2=x2,y0=y0,M.uh z0=M.uh z0,M.U x1,M.U y0,M.U (M.uh z3),x1=x1,y0=y0,M.uh z3=M.uh z3,M.U x0,M.U y0,M.U 0,x0=x0,y0=y0,(0 :Int)=0,(y0==0)=false]:List Prop),val:=.ptr 100 true 0,new:=[.own [.bool true false,.aG 101 false 0 (M.ln z2) 8] 146,.own [.int false .u64 (M.w0 z2),.int false .u64 (M.w1 z2),.int false .u64 (M.w2 z2),.int false .u64 0,.int false .u64 0,.int false .u64 0,.int false .u64 0,.int false .u64 0] 196],wr:=wS}:=by kernel_rfl
theorem aAs (ca ct:Nat) (x0 x1 x2 y0 y1:Int) (xs ys:List SV) :
 iZ true 0 4 (.aG 64 true 0 3 ca) (.aG 65 true 0 2 ct) (ww x0 (ww x1 (ww x2 xs))) (ww y0 (ww y1 ys)) =
 sh (M.r1 x0 x1 x2 y0 y1) fun z7=>
 sh (M.r2 x0 x1 x2 y0 y1) fun z8=>
 sh (M.n4 (M.q0 x0 y0) (M.r0 x0 x1 y0 y1) z7 z8%M.bA) fun z0=>
 sh (x2*y1+M.k2 x0 x1 x2 y0) fun z1=>
 sh (x1*y1+M.q2 x0 x1 x2 y0) fun z2=>
 sh (x0*y1+M.q1 x0 x1 y0) fun z3=>
 sh (x2*y0+0) fun z4=>
 sh (x1*y0+0) fun z5=>
 sh (x0*y0+0) fun z6=>
 some {bM:=([M.U (M.q0 x0 y0),M.U (M.r0 x0 x1 y0 y1),M.U z7,M.U z8,M.r2 x0 x1 x2 y0 y1≠0,[M.q0 x0 y0,M.r0 x0 x1 y0 y1,M.r1 x0 x1 x2 y0 y1,M.r2 x0 x1 x2 y0 y1,M.RU x0 x1 x2 y0 y1,0,0,0,0]=[M.q0 x0 y0,M.r0 x0 x1 y0 y1,M.r1 x0 x1 x2 y0 y1,M.r2 x0 x1 x2 y0 y1,0,0,0,0,0],M.nl [M.q0 x0 y0,M.r0 x0 x1 y0 y1,M.r1 x0 x1 x2 y0 y1,M.r2 x0 x1 x2 y0 y1,M.RU x0 x1 x2 y0 y1]=4,[M.q0 x0 y0,M.r0 x0 x1 y0 y1,M.r1 x0 x1 x2 y0 y1,M.r2 x0 x1 x2 y0 y1,M.RU x0 x1 x2 y0 y1,0,0,0,0]=[M.q0 x0 y0,M.r0 x0 x1 y0 y1,M.r1 x0 x1 x2 y0 y1,M.r2 x0 x1 x2 y0 y1,M.RU x0 x1 x2 y0 y1,0,0,0,0],M.U (M.ul z1),M.U (M.s1' x0 x1 x2 y0 y1),M.K 0,M.ul z1=M.ul z1,M.s1' x0 x1 x2 y0 y1=M.s1' x0 x1 x2 y0 y1,(0 :Int)=0,M.U x2,M.U y1,M.U (M.k2 x0 x1 x2 y0),x2=x2,y1=y1,M.k2 x0 x1 x2 y0=M.k2 x0 x1 x2 y0,M.U (M.ul z2),M.U (M.Hm x0 x1 y0 y1),M.K 0,M.ul z2=M.ul z2,M.Hm x0 x1 y0 y1=M.Hm x0 x1 y0 y1,(0 :Int)=0,M.U x1,M.U y1,M.U (M.q2 x0 x1 x2 y0),x1=x1,y1=y1,M.q2 x0 x1 x2 y0=M.q2 x0 x1 x2 y0,M.U (M.ul z3),M.U 0,M.K 0,M.ul z3=M.ul z3,(0 :Int)=0,(0 :Int)=0,M.U x0,M.U y1,M.U (M.q1 x0 x1 y0),x0=x0,y1=y1,M.q1 x0 x1 y0=M.q1 x0 x1 y0,(y1 != 0)=true,M.U (M.ul z4),M.U (M.k1 x0 x1 y0),M.K 0,M.ul z4=M.ul z4,M.k1 x0 x1 y0=M.k1 x0 x1 y0,(0 :Int)=0,M.U x2,M.U y0,M.U 0,x2=x2,y0=y0,(0 :Int)=0,M.U (M.ul z5),M.U (M.k0 x0 y0),M.K 0,M.ul z5=M.ul z5,M.k0 x0 y0=M.k0 x0 y0,(0 :Int)=0,M.U x1,M.U y0,M.U 0,x1=x1,y0=y0,(0 :Int)=0,M.U (M.ul z6),M.U 0,M.K 0,M.ul z6=M.ul z6,(0 :Int)=0,(0 :Int)=0,M.U x0,M.U y0,M.U 0,x0=x0,y0=y0,(0 :Int)=0,(y0 != 0)=true]:List Prop),val:=.ptr 100 true 0,new:=[.own [.bool true false,.aG 101 false 0 (M.ln z0) 9] 146,.own [.int false .u64 (M.w0 z0),.int false .u64 (M.w1 z0),.int false .u64 (M.w2 z0),.int false .u64 0,.int false .u64 0,.int false .u64 0,.int false .u64 0,.int false .u64 0,.int false .u64 0] 196],wr:=wS}:=by kernel_rfl
theorem MH (ca ct:Nat) (x0 x1 x2 y0 y1:Int) (xs ys:List SV) :
 iZ false 0 4 (.aG 64 true 0 3 ca) (.aG 65 true 0 2 ct) (ww x0 (ww x1 (ww x2 xs))) (ww y0 (ww y1 ys)) =
 sh (M.n4 0 (M.q0 x0 y1) (M.q1 x0 x1 y1) (M.q2 x0 x1 x2 y1)%M.bA) fun z0=>
 sh (x2*y1+0) fun z1=>
 sh (x1*y1+0) fun z2=>
 sh (x0*y1+0) fun z3=>
 some {bM:=([M.U 0,M.U (M.q0 x0 y1),M.U (M.q1 x0 x1 y1),M.U (M.q2 x0 x1 x2 y1),M.q2 x0 x1 x2 y1≠0,[0,M.q0 x0 y1,M.q1 x0 x1 y1,M.q2 x0 x1 x2 y1,M.k2 x0 x1 x2 y1,0,0,0,0]=[0,M.q0 x0 y1,M.q1 x0 x1 y1,M.q2 x0 x1 x2 y1,0,0,0,0,0],M.nl [0,M.q0 x0 y1,M.q1 x0 x1 y1,M.q2 x0 x1 x2 y1,M.k2 x0 x1 x2 y1]=4,[0,M.q0 x0 y1,M.q1 x0 x1 y1,M.q2 x0 x1 x2 y1,M.k2 x0 x1 x2 y1,0,0,0,0]=[0,M.q0 x0 y1,M.q1 x0 x1 y1,M.q2 x0 x1 x2 y1,M.k2 x0 x1 x2 y1,0,0,0,0],M.U (M.ul z1),M.U (M.k1 x0 x1 y1),M.K 0,M.ul z1=M.ul z1,M.k1 x0 x1 y1=M.k1 x0 x1 y1,(0 :Int)=0,M.U x2,M.U y1,M.U 0,x2=x2,y1=y1,(0 :Int)=0,M.U (M.ul z2),M.U (M.k0 x0 y1),M.K 0,M.ul z2=M.ul z2,M.k0 x0 y1=M.k0 x0 y1,(0 :Int)=0,M.U x1,M.U y1,M.U 0,x1=x1,y1=y1,(0 :Int)=0,M.U (M.ul z3),M.U 0,M.K 0,M.ul z3=M.ul z3,(0 :Int)=0,(0 :Int)=0,M.U x0,M.U y1,M.U 0,x0=x0,y1=y1,(0 :Int)=0,(y1 != 0)=true,(y0 != 0)=false]:List Prop),val:=.ptr 100 true 0,new:=[.own [.bool true false,.aG 101 false 0 (M.ln z0) 9] 146,.own [.int false .u64 (M.w0 z0),.int false .u64 (M.w1 z0),.int false .u64 (M.w2 z0),.int false .u64 0,.int false .u64 0,.int false .u64 0,.int false .u64 0,.int false .u64 0,.int false .u64 0] 196],wr:=wS}:=by kernel_rfl
def rB (R:Int) (cap:Nat):List SB:=[.own [.bool true false,.aG 101 false 0 (M.ln R) cap] 146,.own (wc (M.w0 R::M.w1 R::M.w2 R::List.replicate (cap-3) 0)) 196]
def mP (X Y:SV) (ys:List SV):List (Nat × SB):=wS++[(61,.own [.bool true false,X] 146),(63,.own [.bool true false,Y] 146),(65,.own ys 196)]
namespace M
theorem nl3 (a b c:Int):(nl [a,b,c]=0/\a=0/\b=0/\c=0)\/(nl [a,b,c]=1/\a≠0/\b=0/\c=0)\/(nl [a,b,c]=2/\b≠0/\c=0)\/(nl [a,b,c]=3/\c≠0):=by
 by_cases hc:c=0
 .by_cases hb:b=0
  .by_cases ha:a=0
   .left;exact ⟨by simp only [nl,hc,hb,ha,if_true],ha,hb,hc⟩
   .right;left;exact ⟨by simp only [nl,hc,hb,if_true,if_neg ha],ha,hb,hc⟩
  .right;right;left;exact ⟨by simp only [nl,hc,if_true,if_neg hb],hb,hc⟩
 .right;right;right;exact ⟨by simp only [nl,if_neg hc],hc⟩
theorem RV (a b:Int):(nl [a,b]=0/\a=0/\b=0)\/(nl [a,b]=1/\a≠0/\b=0)\/(nl [a,b]=2/\b≠0):=by
 by_cases hb:b=0
 .by_cases ha:a=0
  .left;exact ⟨by simp only [nl,hb,ha,if_true],ha,hb⟩
  .right;left;exact ⟨by simp only [nl,hb,if_true,if_neg ha],ha,hb⟩
 .right;right;exact ⟨by simp only [nl,if_neg hb],hb⟩
theorem mV {p z c:Int} (SA:0<=p) (hp:p<=340282366920938463426481119284349108225) (hz:U z) (hc:U c):az p z c+18446744073709551616*ac p z c=p+z+c/\U (az p z c)/\U (ac p z c):=by
 have:=hz.1;have:=hz.2;have:=hc.1;have:=hc.2
 unfold az ac
 rw [bP]
 unfold U ul uh
 omega
end M
theorem tI {f:FuncId} {n m ca cb:Nat} {b:Bool} {xs ys:List SV} {e:bJ} (h:aF Tryz.prog Γv f jG (fun l=>look l (sK (.aG 64 true 0 n ca) (.aG 65 true 0 m cb) xs ys)) 100 100 e):aF Tryz.prog Γv f jG (fun l=>look l (sK (.aG 64 false 0 n ca) (.aG 65 b 0 m cb) xs ys)) 100 100 e:=
 aF.reL (L:=sK (.aG 64 true 0 n ca) (.aG 65 true 0 m cb) xs ys) (L':=sK (.aG 64 false 0 n ca) (.aG 65 b 0 m cb) xs ys) h ⟨rfl,⟨rfl,fun _=>rfl⟩,rfl,cC _,rfl,⟨rfl,fun _=>rfl⟩,rfl,cC _,rfl,cC _,rfl,cC _,rfl,cC _,rfl,cC _,trivial⟩ (fun _=>rfl)
theorem jQ {Γ:Env} {f:FuncId} {n m ca cb:Nat} {b:Bool} {xs ys:List SV} {ob:List Prop} {N N':List SB} (h:aF Tryz.prog Γ f jG (fun l=>look l (sK (.aG 64 true 0 n ca) (.aG 65 true 0 m cb) xs ys)) 100 100 { bM:=ob,val:=.ptr 100 true 0,new:=N,wr:=wS }) (hg:Γv.aR=Γ.aR) (hn:xE N N') :
 aF Tryz.prog Γv f jG (fun l=>look l (sK (.aG 64 false 0 n ca) (.aG 65 b 0 m cb) xs ys)) 100 100 { val:=.ptr 100 true 0,new:=N',wr:=mP (.aG 64 false 0 n ca) (.aG 65 b 0 m cb) ys }:=
 tI ((((h.bE 61 _ rfl (by decide)).bE 63 _ rfl (by decide)).bE 65 _ rfl (by decide)).re hg (fun _=>rfl) hn ⟨rfl,⟨rfl,fun _=>rfl⟩,rfl,⟨rfl,fun _=>rfl⟩,rfl,⟨rfl,fun _=>rfl⟩,rfl,⟨rfl,fun _=>rfl⟩,rfl,⟨rfl,fun _=>rfl⟩,trivial⟩)
open M in
theorem MK (xs ys:List SV) {y0 y1 y2:Int} (fG:U y0) (iC:U y1) (Fo:y2=1):aF Tryz.prog Γv 95 jG (fun l=>look l (sK (.raw (.slice none 0 0)) (.aG 65 true 0 3 7) xs (ww y0 (ww y1 (ww y2 ys))))) 100 100
 { val:=.ptr 100 true 0,new:=rB ((0+n3 y0 y1 y2)%bA) 7,wr:=mP (.raw (.slice none 0 0)) (.aG 65 true 0 3 7) (ww y0 (ww y1 (ww y2 ys))) }:=by
 have hs:aH Tryz.prog (env (zH []) 22) 95 (aJ (env (zH []) 22) Tryz.f95 true [] 400):=aM (bQ _ 22) (bW _ (vB []) 22) mix Tryz.func95 (by kernel_rfl) true [] 400
 have hU:U y2:=by unfold U;omega
 have hz:y2≠0:=by omega
 rw [Int.zero_add]
 exact (((((hs.call (aZr xs y0 y1 y2 ys) (aA (by simp only [sh,bX,fG,iC,hU,and_true,true_and];exact hz))).bE 61 _ rfl (by decide)).bE 63 _ rfl (by decide)).bE 65 _ rfl (by decide)).re rfl (fun _=>rfl) ⟨⟨rfl,fun _=>rfl⟩,⟨rfl,fun _=>rfl⟩,trivial⟩ ⟨rfl,⟨rfl,fun _=>rfl⟩,rfl,⟨rfl,fun _=>rfl⟩,rfl,⟨rfl,fun _=>rfl⟩,rfl,⟨rfl,fun _=>rfl⟩,rfl,⟨rfl,fun _=>rfl⟩,trivial⟩)
open M in
theorem MO (ca:Nat) (xs ys:List SV) {y0 y1 y2:Int} (fG:U y0) (iC:U y1) (Fo:y2=1):aF Tryz.prog Γv 95 jG (fun l=>look l (sK (.aG 64 false 0 0 ca) (.aG 65 true 0 3 7) xs (ww y0 (ww y1 (ww y2 ys))))) 100 100
 { val:=.ptr 100 true 0,new:=rB ((0+n3 y0 y1 y2)%bA) 7,wr:=mP (.aG 64 false 0 0 ca) (.aG 65 true 0 3 7) (ww y0 (ww y1 (ww y2 ys))) }:=by
 have hs:∀ h,aH Tryz.prog (env (zH h) 22) 95 (aJ (env (zH h) 22) Tryz.f95 true [] 400):=fun h=>aM (bQ _ 22) (bW _ (vB h) 22) mix Tryz.func95 (by kernel_rfl) true [] 400
 have hU:U y2:=by unfold U;omega
 have hz:(y2≠0)=True:=eq_true (by omega)
 have hW:0+n3 y0 y1 y2=n3 y0 y1 y2:=Int.zero_add _
 rw [hW]
 exact jQ ((hs _).call (aZv ca xs y0 y1 y2 ys) (aA (by simp only [sh,bX,fG,iC,hU,hz,and_true,true_and]))) rfl ⟨⟨rfl,fun _=>rfl⟩,⟨rfl,fun _=>rfl⟩,trivial⟩
open M in
theorem MN {ca:Nat} (lB:ca=6\/ca=7\/ca=8\/ca=9) (xs ys:List SV) {x0 y0 y1 y2:Int} (gD:U x0) (hN:x0<bA) (fG:U y0) (iC:U y1) (Fo:y2=1):aF Tryz.prog Γv 95 jG (fun l=>look l (sK (.aG 64 false 0 1 ca) (.aG 65 true 0 3 7) (ww x0 xs) (ww y0 (ww y1 (ww y2 ys))))) 100 100
 { val:=.ptr 100 true 0,new:=rB ((x0+n3 y0 y1 y2)%bA) 8,wr:=mP (.aG 64 false 0 1 ca) (.aG 65 true 0 3 7) (ww y0 (ww y1 (ww y2 ys))) }:=by
 have hs:∀ h,aH Tryz.prog (env (zH h) 22) 95 (aJ (env (zH h) 22) Tryz.f95 true [] 400):=fun h=>aM (bQ _ 22) (bW _ (vB h) 22) mix Tryz.func95 (by kernel_rfl) true [] 400
 have hU:U y2:=by unfold U;omega
 have:=gD.1;have:=gD.2;have:=fG.1;have:=fG.2;have:=iC.1;have:=iC.2
 have DH:x0<1361129467683753853853498429727072845819:=hN
 skip
 have ec0:c0 y0 x0=(y0+x0)/18446744073709551616:=by unfold c0 uh;omega
 by_cases Aq:(uh (y1+c0 y0 x0+0)==0)=true
 .have h1:uh (y1+c0 y0 x0+0)=0:=by simpa using Aq
  have h1:y1+c0 y0 x0<18446744073709551616:=by unfold uh at h1;omega
  have u0:U (g0 y0 x0):=by exact dU _
  have u1:U (ul (y1+c0 y0 x0+0)):=by exact dU _
  have u2:U (y2):=by exact hU
  have hW:n3 (g0 y0 x0) (ul (y1+c0 y0 x0+0)) (y2)=x0+n3 y0 y1 y2:=by unfold n3 g0;unfold ul;omega
  have hz:(y2≠0)=True:=eq_true (by intro e;rw [e] at hW;have:=u0.2;have:=u1.2;unfold n3 at hW;omega)
  have hn:nl [g0 y0 x0,ul (y1+c0 y0 x0+0),y2,0]=3:=by rw [nl4];simp only [nl,if_neg (of_eq_true hz)]
  have kc0:K (c0 y0 x0):=by unfold K;omega
  have vc0:U (c0 y0 x0):=by unfold U;omega
  rw [<- hW]
  exact jQ ((hs _).call (aZu lB x0 xs y0 y1 y2 ys) (aA (by simp only [sh,bX,gD,fG,iC,hU,u0,u1,u2,hz,hn,K0,kc0,vc0,Aq,and_true,true_and]))) rfl ⟨⟨rfl,fun _=>rfl⟩,⟨rfl,fun _=>rfl⟩,trivial⟩
 .have Aq:(uh (y1+c0 y0 x0+0)==0)=false:=by simpa using Aq
  have hm:(y2 != 18446744073709551615)=true:=by rw [Fo];decide
  have h1:uh (y1+c0 y0 x0+0)≠0:=by simpa using Aq
  have h1:y1+c0 y0 x0=18446744073709551616:=by unfold uh at h1;omega
  have u0:U (g0 y0 x0):=by exact dU _
  have u1:U (ul (y1+c0 y0 x0+0)):=by exact dU _
  have u2:U (IntKind.u64.wrap (y2+1)):=by rw [bP];exact dU _
  have hW:n3 (g0 y0 x0) (ul (y1+c0 y0 x0+0)) (IntKind.u64.wrap (y2+1))=x0+n3 y0 y1 y2:=by unfold n3 g0;rw [bP];unfold ul;omega
  have hz:(IntKind.u64.wrap (y2+1)≠0)=True:=eq_true (by intro e;rw [e] at hW;have:=u0.2;have:=u1.2;unfold n3 at hW;omega)
  have hn:nl [g0 y0 x0,ul (y1+c0 y0 x0+0),IntKind.u64.wrap (y2+1),0]=3:=by rw [nl4];simp only [nl,if_neg (of_eq_true hz)]
  have kc0:K (c0 y0 x0):=by unfold K;omega
  have vc0:U (c0 y0 x0):=by unfold U;omega
  rw [<- hW]
  exact jQ ((hs _).call (aTv lB x0 xs y0 y1 y2 ys) (aA (by simp only [sh,bX,gD,fG,iC,hU,u0,u1,u2,hz,hn,K0,kc0,vc0,Aq,hm,and_true,true_and]))) rfl ⟨⟨rfl,fun _=>rfl⟩,⟨rfl,fun _=>rfl⟩,trivial⟩
open M in
theorem MM {ca:Nat} (lB:ca=6\/ca=7\/ca=8\/ca=9) (xs ys:List SV) {x0 x1 y0 y1 y2:Int} (gD:U x0) (gE:U x1) (hN:(x0+18446744073709551616*x1)<bA) (fG:U y0) (iC:U y1) (Fo:y2=1):aF Tryz.prog Γv 95 jG (fun l=>look l (sK (.aG 64 false 0 2 ca) (.aG 65 true 0 3 7) (ww x0 (ww x1 xs)) (ww y0 (ww y1 (ww y2 ys))))) 100 100
 { val:=.ptr 100 true 0,new:=rB (((x0+18446744073709551616*x1)+n3 y0 y1 y2)%bA) 8,wr:=mP (.aG 64 false 0 2 ca) (.aG 65 true 0 3 7) (ww y0 (ww y1 (ww y2 ys))) }:=by
 have hs:∀ h,aH Tryz.prog (env (zH h) 22) 95 (aJ (env (zH h) 22) Tryz.f95 true [] 400):=fun h=>aM (bQ _ 22) (bW _ (vB h) 22) mix Tryz.func95 (by kernel_rfl) true [] 400
 have hU:U y2:=by unfold U;omega
 have:=gD.1;have:=gD.2;have:=gE.1;have:=gE.2;have:=fG.1;have:=fG.2;have:=iC.1;have:=iC.2
 have DH:(x0+18446744073709551616*x1)<1361129467683753853853498429727072845819:=hN
 skip
 have ec0:c0 y0 x0=(y0+x0)/18446744073709551616:=by unfold c0 uh;omega
 have ec1:c1 y0 y1 x0 x1=(y1+x1+c0 y0 x0)/18446744073709551616:=by unfold c1 uh;omega
 have Aq:(uh (y2+c1 y0 y1 x0 x1+0)==0)=true:=by rw [Fo];simp only [beq_iff_eq];unfold uh;omega
 have u0:U (g0 y0 x0):=by exact dU _
 have u1:U (g1 y0 y1 x0 x1):=by exact dU _
 have u2:U (ul (y2+c1 y0 y1 x0 x1+0)):=by exact dU _
 have hW:n3 (g0 y0 x0) (g1 y0 y1 x0 x1) (ul (y2+c1 y0 y1 x0 x1+0))=(x0+18446744073709551616*x1)+n3 y0 y1 y2:=by unfold n3 g0 g1;unfold ul;omega
 have hz:(ul (y2+c1 y0 y1 x0 x1+0)≠0)=True:=eq_true (by intro e;rw [e] at hW;have:=u0.2;have:=u1.2;unfold n3 at hW;omega)
 have hn:nl [g0 y0 x0,g1 y0 y1 x0 x1,ul (y2+c1 y0 y1 x0 x1+0),0]=3:=by rw [nl4];simp only [nl,if_neg (of_eq_true hz)]
 have kc0:K (c0 y0 x0):=by unfold K;omega
 have vc0:U (c0 y0 x0):=by unfold U;omega
 have kc1:K (c1 y0 y1 x0 x1):=by unfold K;omega
 have vc1:U (c1 y0 y1 x0 x1):=by unfold U;omega
 rw [<- hW]
 exact jQ ((hs _).call (aZt lB x0 x1 xs y0 y1 y2 ys) (aA (by simp only [sh,bX,gD,gE,fG,iC,hU,u0,u1,u2,hz,hn,K0,kc0,kc1,vc0,vc1,Aq,and_true,true_and]))) rfl ⟨⟨rfl,fun _=>rfl⟩,⟨rfl,fun _=>rfl⟩,trivial⟩
open M in
theorem ML {ca:Nat} (lB:ca=6\/ca=7\/ca=8\/ca=9) (xs ys:List SV) {x0 x1 x2 y0 y1 y2:Int} (gD:U x0) (gE:U x1) (nJ:U x2) (hN:n3 x0 x1 x2<bA) (fG:U y0) (iC:U y1) (Fo:y2=1):aF Tryz.prog Γv 95 jG (fun l=>look l (sK (.aG 64 false 0 3 ca) (.aG 65 true 0 3 7) (ww x0 (ww x1 (ww x2 xs))) (ww y0 (ww y1 (ww y2 ys))))) 100 100
 { val:=.ptr 100 true 0,new:=rB ((n3 x0 x1 x2+n3 y0 y1 y2)%bA) 8,wr:=mP (.aG 64 false 0 3 ca) (.aG 65 true 0 3 7) (ww y0 (ww y1 (ww y2 ys))) }:=by
 have hs:∀ h,aH Tryz.prog (env (zH h) 22) 95 (aJ (env (zH h) 22) Tryz.f95 true [] 400):=fun h=>aM (bQ _ 22) (bW _ (vB h) 22) mix Tryz.func95 (by kernel_rfl) true [] 400
 have hU:U y2:=by unfold U;omega
 have:=gD.1;have:=gD.2;have:=gE.1;have:=gE.2;have:=nJ.1;have:=nJ.2;have:=fG.1;have:=fG.2;have:=iC.1;have:=iC.2
 have DH:n3 x0 x1 x2<1361129467683753853853498429727072845819:=hN
 unfold n3 at DH
 have ec0:c0 x0 y0=(x0+y0)/18446744073709551616:=by unfold c0 uh;omega
 have ec1:c1 x0 x1 y0 y1=(x1+y1+c0 x0 y0)/18446744073709551616:=by unfold c1 uh;omega
 have ec2:c2 x0 x1 x2 y0 y1 y2=(x2+y2+c1 x0 x1 y0 y1)/18446744073709551616:=by unfold c2 uh;omega
 have Aq:c2 x0 x1 x2 y0 y1 y2=0:=by omega
 have u0:U (g0 x0 y0):=by exact dU _
 have u1:U (g1 x0 x1 y0 y1):=by exact dU _
 have u2:U (g2 x0 x1 x2 y0 y1 y2):=by exact dU _
 have hW:n3 (g0 x0 y0) (g1 x0 x1 y0 y1) (g2 x0 x1 x2 y0 y1 y2)=n3 x0 x1 x2+n3 y0 y1 y2:=by unfold n3 g0 g1 g2;unfold ul;omega
 have hz:(g2 x0 x1 x2 y0 y1 y2≠0)=True:=eq_true (by intro e;rw [e] at hW;have:=u0.2;have:=u1.2;unfold n3 at hW;omega)
 have hn:nl [g0 x0 y0,g1 x0 x1 y0 y1,g2 x0 x1 x2 y0 y1 y2,0]=3:=by rw [nl4];simp only [nl,if_neg (of_eq_true hz)]
 have kc0:K (c0 x0 y0):=by unfold K;omega
 have vc0:U (c0 x0 y0):=by unfold U;omega
 have kc1:K (c1 x0 x1 y0 y1):=by unfold K;omega
 have vc1:U (c1 x0 x1 y0 y1):=by unfold U;omega
 rw [<- hW]
 exact jQ ((hs _).call (aZs lB x0 x1 x2 xs y0 y1 y2 ys) (aA (by simp only [sh,bX,gD,gE,nJ,fG,iC,hU,u0,u1,u2,hz,hn,K0,kc0,kc1,vc0,vc1,Aq,and_true,true_and]))) rfl ⟨⟨rfl,fun _=>rfl⟩,⟨rfl,fun _=>rfl⟩,trivial⟩
def nB:List SB:=[.own [.bool true false,.raw (.slice none 0 0)] 146]
theorem oH (h:Bool) (iq ir:Nat):aH Tryz.prog (env (UU h iq ir) 22) 97 (aJ (env (UU h iq ir) 22) Tryz.f97 true [] 400):=aM (bQ _ 22) (bW _ (aCd h iq ir) 22) mix Tryz.func97 (by kernel_rfl) true [] 400
theorem AQ (ca ct:Nat) (xs ys:List SV):aF Tryz.prog Γv 97 jG (fun l=>look l (sK (.aG 64 false 0 0 ca) (.aG 65 false 0 0 ct) xs ys)) 100 100
 { val:=.ptr 100 true 0,new:=nB,wr:=mP (.aG 64 false 0 0 ca) (.aG 65 false 0 0 ct) ys }:=
 tI ((((((oH true 0 0).call (aBi ca ct  xs ys) (by simp)).bE 61 _ rfl (by decide)).bE 63 _ rfl (by decide)).bE 65 _ rfl (by decide)).re rfl (fun _=>rfl) ⟨⟨rfl,fun _=>rfl⟩,trivial⟩ ⟨rfl,⟨rfl,fun _=>rfl⟩,rfl,⟨rfl,fun _=>rfl⟩,rfl,⟨rfl,fun _=>rfl⟩,rfl,⟨rfl,fun _=>rfl⟩,rfl,⟨rfl,fun _=>rfl⟩,trivial⟩)
theorem AP (ca ct:Nat) (y0:Int) (xs ys:List SV):aF Tryz.prog Γv 97 jG (fun l=>look l (sK (.aG 64 false 0 0 ca) (.aG 65 false 0 1 ct) xs (ww y0 ys))) 100 100
 { val:=.ptr 100 true 0,new:=nB,wr:=mP (.aG 64 false 0 0 ca) (.aG 65 false 0 1 ct) (ww y0 ys) }:=
 tI ((((((oH true 0 0).call (aBh ca ct y0 xs ys) (by simp)).bE 61 _ rfl (by decide)).bE 63 _ rfl (by decide)).bE 65 _ rfl (by decide)).re rfl (fun _=>rfl) ⟨⟨rfl,fun _=>rfl⟩,trivial⟩ ⟨rfl,⟨rfl,fun _=>rfl⟩,rfl,⟨rfl,fun _=>rfl⟩,rfl,⟨rfl,fun _=>rfl⟩,rfl,⟨rfl,fun _=>rfl⟩,rfl,⟨rfl,fun _=>rfl⟩,trivial⟩)
theorem AO (ca ct:Nat) (y0 y1:Int) (xs ys:List SV):aF Tryz.prog Γv 97 jG (fun l=>look l (sK (.aG 64 false 0 0 ca) (.aG 65 false 0 2 ct) xs (ww y0 (ww y1 ys)))) 100 100
 { val:=.ptr 100 true 0,new:=nB,wr:=mP (.aG 64 false 0 0 ca) (.aG 65 false 0 2 ct) (ww y0 (ww y1 ys)) }:=
 tI ((((((oH true 0 0).call (aBg ca ct y0 y1 xs ys) (by simp)).bE 61 _ rfl (by decide)).bE 63 _ rfl (by decide)).bE 65 _ rfl (by decide)).re rfl (fun _=>rfl) ⟨⟨rfl,fun _=>rfl⟩,trivial⟩ ⟨rfl,⟨rfl,fun _=>rfl⟩,rfl,⟨rfl,fun _=>rfl⟩,rfl,⟨rfl,fun _=>rfl⟩,rfl,⟨rfl,fun _=>rfl⟩,rfl,⟨rfl,fun _=>rfl⟩,trivial⟩)
theorem AN (ca ct:Nat) (x0:Int) (xs ys:List SV):aF Tryz.prog Γv 97 jG (fun l=>look l (sK (.aG 64 false 0 1 ca) (.aG 65 false 0 0 ct) (ww x0 xs) ys)) 100 100
 { val:=.ptr 100 true 0,new:=nB,wr:=mP (.aG 64 false 0 1 ca) (.aG 65 false 0 0 ct) ys }:=
 tI ((((((oH true 0 0).call (aBf ca ct x0 xs ys) (by simp)).bE 61 _ rfl (by decide)).bE 63 _ rfl (by decide)).bE 65 _ rfl (by decide)).re rfl (fun _=>rfl) ⟨⟨rfl,fun _=>rfl⟩,trivial⟩ ⟨rfl,⟨rfl,fun _=>rfl⟩,rfl,⟨rfl,fun _=>rfl⟩,rfl,⟨rfl,fun _=>rfl⟩,rfl,⟨rfl,fun _=>rfl⟩,rfl,⟨rfl,fun _=>rfl⟩,trivial⟩)
theorem AK (ca ct:Nat) (x0 x1:Int) (xs ys:List SV):aF Tryz.prog Γv 97 jG (fun l=>look l (sK (.aG 64 false 0 2 ca) (.aG 65 false 0 0 ct) (ww x0 (ww x1 xs)) ys)) 100 100
 { val:=.ptr 100 true 0,new:=nB,wr:=mP (.aG 64 false 0 2 ca) (.aG 65 false 0 0 ct) ys }:=
 tI ((((((oH true 0 0).call (aBa ca ct x0 x1 xs ys) (by simp)).bE 61 _ rfl (by decide)).bE 63 _ rfl (by decide)).bE 65 _ rfl (by decide)).re rfl (fun _=>rfl) ⟨⟨rfl,fun _=>rfl⟩,trivial⟩ ⟨rfl,⟨rfl,fun _=>rfl⟩,rfl,⟨rfl,fun _=>rfl⟩,rfl,⟨rfl,fun _=>rfl⟩,rfl,⟨rfl,fun _=>rfl⟩,rfl,⟨rfl,fun _=>rfl⟩,trivial⟩)
theorem AH (ca ct:Nat) (x0 x1 x2:Int) (xs ys:List SV):aF Tryz.prog Γv 97 jG (fun l=>look l (sK (.aG 64 false 0 3 ca) (.aG 65 false 0 0 ct) (ww x0 (ww x1 (ww x2 xs))) ys)) 100 100
 { val:=.ptr 100 true 0,new:=nB,wr:=mP (.aG 64 false 0 3 ca) (.aG 65 false 0 0 ct) ys }:=
 tI ((((((oH true 0 0).call (aAv ca ct x0 x1 x2 xs ys) (by simp)).bE 61 _ rfl (by decide)).bE 63 _ rfl (by decide)).bE 65 _ rfl (by decide)).re rfl (fun _=>rfl) ⟨⟨rfl,fun _=>rfl⟩,trivial⟩ ⟨rfl,⟨rfl,fun _=>rfl⟩,rfl,⟨rfl,fun _=>rfl⟩,rfl,⟨rfl,fun _=>rfl⟩,rfl,⟨rfl,fun _=>rfl⟩,rfl,⟨rfl,fun _=>rfl⟩,trivial⟩)
open M in
set_option maxHeartbeats 1000000 in
theorem AM (ca ct:Nat) (xs ys:List SV) {x0 y0:Int} (gD:U x0) (fG:U y0) (hzx:x0≠0) (CB:y0≠0) (hN:x0<bA) (hT:y0<21267647932558653966460912964485513216):aF Tryz.prog Γv 97 jG (fun l=>look l (sK (.aG 64 false 0 1 ca) (.aG 65 false 0 1 ct) (ww x0 xs) (ww y0 ys))) 100 100
 { val:=.ptr 100 true 0,new:=rB ((x0*y0)%bA) 6,wr:=mP (.aG 64 false 0 1 ca) (.aG 65 false 0 1 ct) (ww y0 ys) }:=by
 have:=gD.1;have:=gD.2;have:=fG.1;have:=fG.2
 have DH:x0<1361129467683753853853498429727072845819:=hN
 have Bg:1<=x0:=by omega
 have Bf:1<=y0:=by omega
 have oF:1<=x0*y0:=Int.le_trans (by decide) (Int.mul_le_mul Bg Bf (by decide) (by omega))
 have Pg:x0*y0<=1361129467683753853853498429727072845818*21267647932558653966460912964485513215:=Int.mul_le_mul (by omega) (by omega) (by omega) (by decide)
 have hE:x0*y0=x0*y0:=by grind
 have q0:=mT (x0*y0+0)
 have m0:=eN gD fG
 have Km:U (uh (x0*y0+0)):=Av gD fG U0
 have ul0:U (ul (x0*y0+0)):=dU _
 have hb:(y0==0)=false:=by simpa using CB
 have hS:ul (x0*y0+0)+18446744073709551616*uh (x0*y0+0)=x0*y0:=by
  rw [hE]
  skip
  generalize x0*y0=z0 at *
  omega
 have Pb:U (ul (x0*y0+0))/\U (uh (x0*y0+0)):=by refine ⟨?_,?_⟩ <;> first | exact U0 | assumption | exact dU _
 obtain ⟨Am,Al⟩:=Pb
 have:=Am.1;have:=Am.2;have:=Al.1;have:=Al.2
 by_cases ht:uh (x0*y0+0)=0
 .have hz:(ul (x0*y0+0)≠0)=True:=eq_true (by intro e;rw [e,ht] at hS;clear hE;generalize x0*y0=zz at hS oF Pg;omega)
  have hn:nl [ul (x0*y0+0),0]=1:=(gI [ul (x0*y0+0)]).trans (by simp only [nl,if_neg (of_eq_true hz)])
  rw [ht,Int.mul_zero,Int.add_zero] at hS
  rw [<- hS]
  exact jQ ((oH true 1 0).call (aBe ca ct x0 y0 xs ys) (aA (by simp only [sh,bX,gD,fG,U0,K0,dU,Km,hb,ht,hz,hn,and_true,true_and]))) rfl ⟨⟨rfl,fun _=>rfl⟩,⟨rfl,fun _=>rfl⟩,trivial⟩
 .have hz:(uh (x0*y0+0)≠0)=True:=eq_true ht
  have hn:nl [ul (x0*y0+0),uh (x0*y0+0)]=2:=by simp only [nl,if_neg ht]
  rw [<- hS]
  exact jQ ((oH true 2 0).call (aBd ca ct x0 y0 xs ys) (aA (by simp only [sh,bX,gD,fG,U0,K0,dU,Km,hb,hz,hn,and_true,true_and]))) rfl ⟨⟨rfl,fun _=>rfl⟩,⟨rfl,fun _=>rfl⟩,trivial⟩
open M in
set_option maxHeartbeats 1000000 in
theorem AL (ca ct:Nat) (xs ys:List SV) {x0 y0 y1:Int} (gD:U x0) (fG:U y0) (iC:U y1) (hzx:x0≠0) (CB:y1≠0) (hN:x0<bA) (hT:(y0+18446744073709551616*y1)<21267647932558653966460912964485513216):aF Tryz.prog Γv 97 jG (fun l=>look l (sK (.aG 64 false 0 1 ca) (.aG 65 false 0 2 ct) (ww x0 xs) (ww y0 (ww y1 ys)))) 100 100
 { val:=.ptr 100 true 0,new:=rB ((x0*(y0+18446744073709551616*y1))%bA) 7,wr:=mP (.aG 64 false 0 1 ca) (.aG 65 false 0 2 ct) (ww y0 (ww y1 ys)) }:=by
 have:=gD.1;have:=gD.2;have:=fG.1;have:=fG.2;have:=iC.1;have:=iC.2
 have DH:x0<1361129467683753853853498429727072845819:=hN
 have Bg:1<=x0:=by omega
 have Bf:18446744073709551616<=(y0+18446744073709551616*y1):=by omega
 have oF:18446744073709551616<=x0*(y0+18446744073709551616*y1):=Int.le_trans (by decide) (Int.mul_le_mul Bg Bf (by decide) (by omega))
 have Pg:x0*(y0+18446744073709551616*y1)<=1361129467683753853853498429727072845818*21267647932558653966460912964485513215:=Int.mul_le_mul (by omega) (by omega) (by omega) (by decide)
 have hE:x0*(y0+18446744073709551616*y1)=y0*x0+18446744073709551616*(y1*x0):=by grind
 have q0:=mT (y0*x0+0)
 have m0:=eN fG gD
 have Km:U (uh (y0*x0+0)):=Av fG gD U0
 have ul0:U (ul (y0*x0+0)):=dU _
 have q1:=mT (y1*x0+uh (y0*x0+0))
 have m1:=eN iC gD
 have RS:U (uh (y1*x0+uh (y0*x0+0))):=Av iC gD Km
 have ul1:U (ul (y1*x0+uh (y0*x0+0))):=dU _
 have hb:(x0==0)=false:=by simpa using hzx
 have hS:n3 (ul (y0*x0+0)) (ul (y1*x0+uh (y0*x0+0))) (uh (y1*x0+uh (y0*x0+0)))=x0*(y0+18446744073709551616*y1):=by
  rw [hE]
  unfold n3
  generalize y0*x0=z0 at *
  generalize y1*x0=z1 at *
  omega
 have Pb:U (ul (y0*x0+0))/\U (ul (y1*x0+uh (y0*x0+0)))/\U (uh (y1*x0+uh (y0*x0+0))):=by refine ⟨?_,?_,?_⟩ <;> first | exact U0 | assumption | exact dU _
 obtain ⟨Am,Al,Fk⟩:=Pb
 have:=Am.1;have:=Am.2;have:=Al.1;have:=Al.2;have:=Fk.1;have:=Fk.2
 by_cases ht:uh (y1*x0+uh (y0*x0+0))=0
 .have hz:(ul (y1*x0+uh (y0*x0+0))≠0)=True:=eq_true (by intro e;rw [e,ht] at hS;clear hE;unfold n3 at hS;generalize x0*(y0+18446744073709551616*y1)=zz at hS oF Pg;omega)
  have hn:nl [ul (y0*x0+0),ul (y1*x0+uh (y0*x0+0)),0]=2:=(gI [ul (y0*x0+0),ul (y1*x0+uh (y0*x0+0))]).trans (by simp only [nl,if_neg (of_eq_true hz)])
  have hS:ul (y0*x0+0)+18446744073709551616*ul (y1*x0+uh (y0*x0+0))=x0*(y0+18446744073709551616*y1):=by rw [<- hS,ht];unfold n3;omega
  rw [<- hS]
  exact jQ ((oH true 0 2).call (aBc ca ct x0 y0 y1 xs ys) (aA (by simp only [sh,bX,gD,fG,iC,U0,K0,dU,Km,RS,hb,ht,hz,hn,and_true,true_and]))) rfl ⟨⟨rfl,fun _=>rfl⟩,⟨rfl,fun _=>rfl⟩,trivial⟩
 .have hz:(uh (y1*x0+uh (y0*x0+0))≠0)=True:=eq_true ht
  have hn:nl [ul (y0*x0+0),ul (y1*x0+uh (y0*x0+0)),uh (y1*x0+uh (y0*x0+0))]=3:=by simp only [nl,if_neg ht]
  rw [<- hS]
  exact jQ ((oH true 0 3).call (aBb ca ct x0 y0 y1 xs ys) (aA (by simp only [sh,bX,gD,fG,iC,U0,K0,dU,Km,RS,hb,hz,hn,and_true,true_and]))) rfl ⟨⟨rfl,fun _=>rfl⟩,⟨rfl,fun _=>rfl⟩,trivial⟩
open M in
set_option maxHeartbeats 1000000 in
theorem AJ (ca ct:Nat) (xs ys:List SV) {x0 x1 y0:Int} (gD:U x0) (gE:U x1) (fG:U y0) (hzx:x1≠0) (CB:y0≠0) (hN:(x0+18446744073709551616*x1)<bA) (hT:y0<21267647932558653966460912964485513216):aF Tryz.prog Γv 97 jG (fun l=>look l (sK (.aG 64 false 0 2 ca) (.aG 65 false 0 1 ct) (ww x0 (ww x1 xs)) (ww y0 ys))) 100 100
 { val:=.ptr 100 true 0,new:=rB (((x0+18446744073709551616*x1)*y0)%bA) 7,wr:=mP (.aG 64 false 0 2 ca) (.aG 65 false 0 1 ct) (ww y0 ys) }:=by
 have:=gD.1;have:=gD.2;have:=gE.1;have:=gE.2;have:=fG.1;have:=fG.2
 have DH:(x0+18446744073709551616*x1)<1361129467683753853853498429727072845819:=hN
 have Bg:18446744073709551616<=(x0+18446744073709551616*x1):=by omega
 have Bf:1<=y0:=by omega
 have oF:18446744073709551616<=(x0+18446744073709551616*x1)*y0:=Int.le_trans (by decide) (Int.mul_le_mul Bg Bf (by decide) (by omega))
 have Pg:(x0+18446744073709551616*x1)*y0<=1361129467683753853853498429727072845818*21267647932558653966460912964485513215:=Int.mul_le_mul (by omega) (by omega) (by omega) (by decide)
 have hE:(x0+18446744073709551616*x1)*y0=x0*y0+18446744073709551616*(x1*y0):=by grind
 have q0:=mT (x0*y0+0)
 have m0:=eN gD fG
 have Km:U (uh (x0*y0+0)):=Av gD fG U0
 have ul0:U (ul (x0*y0+0)):=dU _
 have q1:=mT (x1*y0+uh (x0*y0+0))
 have m1:=eN gE fG
 have RS:U (uh (x1*y0+uh (x0*y0+0))):=Av gE fG Km
 have ul1:U (ul (x1*y0+uh (x0*y0+0))):=dU _
 have hb:(y0==0)=false:=by simpa using CB
 have hS:n3 (ul (x0*y0+0)) (ul (x1*y0+uh (x0*y0+0))) (uh (x1*y0+uh (x0*y0+0)))=(x0+18446744073709551616*x1)*y0:=by
  rw [hE]
  unfold n3
  generalize x0*y0=z0 at *
  generalize x1*y0=z1 at *
  omega
 have Pb:U (ul (x0*y0+0))/\U (ul (x1*y0+uh (x0*y0+0)))/\U (uh (x1*y0+uh (x0*y0+0))):=by refine ⟨?_,?_,?_⟩ <;> first | exact U0 | assumption | exact dU _
 obtain ⟨Am,Al,Fk⟩:=Pb
 have:=Am.1;have:=Am.2;have:=Al.1;have:=Al.2;have:=Fk.1;have:=Fk.2
 by_cases ht:uh (x1*y0+uh (x0*y0+0))=0
 .have hz:(ul (x1*y0+uh (x0*y0+0))≠0)=True:=eq_true (by intro e;rw [e,ht] at hS;clear hE;unfold n3 at hS;generalize (x0+18446744073709551616*x1)*y0=zz at hS oF Pg;omega)
  have hn:nl [ul (x0*y0+0),ul (x1*y0+uh (x0*y0+0)),0]=2:=(gI [ul (x0*y0+0),ul (x1*y0+uh (x0*y0+0))]).trans (by simp only [nl,if_neg (of_eq_true hz)])
  have hS:ul (x0*y0+0)+18446744073709551616*ul (x1*y0+uh (x0*y0+0))=(x0+18446744073709551616*x1)*y0:=by rw [<- hS,ht];unfold n3;omega
  rw [<- hS]
  exact jQ ((oH true 0 2).call (aAz ca ct x0 x1 y0 xs ys) (aA (by simp only [sh,bX,gD,gE,fG,U0,K0,dU,Km,RS,hb,ht,hz,hn,and_true,true_and]))) rfl ⟨⟨rfl,fun _=>rfl⟩,⟨rfl,fun _=>rfl⟩,trivial⟩
 .have hz:(uh (x1*y0+uh (x0*y0+0))≠0)=True:=eq_true ht
  have hn:nl [ul (x0*y0+0),ul (x1*y0+uh (x0*y0+0)),uh (x1*y0+uh (x0*y0+0))]=3:=by simp only [nl,if_neg ht]
  rw [<- hS]
  exact jQ ((oH true 0 3).call (aAy ca ct x0 x1 y0 xs ys) (aA (by simp only [sh,bX,gD,gE,fG,U0,K0,dU,Km,RS,hb,hz,hn,and_true,true_and]))) rfl ⟨⟨rfl,fun _=>rfl⟩,⟨rfl,fun _=>rfl⟩,trivial⟩
open M in
set_option maxHeartbeats 1000000 in
theorem AG (ca ct:Nat) (xs ys:List SV) {x0 x1 x2 y0:Int} (gD:U x0) (gE:U x1) (nJ:U x2) (fG:U y0) (hzx:x2≠0) (CB:y0≠0) (hN:n3 x0 x1 x2<bA) (hT:y0<21267647932558653966460912964485513216):aF Tryz.prog Γv 97 jG (fun l=>look l (sK (.aG 64 false 0 3 ca) (.aG 65 false 0 1 ct) (ww x0 (ww x1 (ww x2 xs))) (ww y0 ys))) 100 100
 { val:=.ptr 100 true 0,new:=rB ((n3 x0 x1 x2*y0)%bA) 8,wr:=mP (.aG 64 false 0 3 ca) (.aG 65 false 0 1 ct) (ww y0 ys) }:=by
 have:=gD.1;have:=gD.2;have:=gE.1;have:=gE.2;have:=nJ.1;have:=nJ.2;have:=fG.1;have:=fG.2
 have DH:n3 x0 x1 x2<1361129467683753853853498429727072845819:=hN
 have Bg:340282366920938463463374607431768211456<=n3 x0 x1 x2:=by unfold n3;omega
 have Bf:1<=y0:=by omega
 have oF:340282366920938463463374607431768211456<=n3 x0 x1 x2*y0:=Int.le_trans (by decide) (Int.mul_le_mul Bg Bf (by decide) (by omega))
 have Pg:n3 x0 x1 x2*y0<=1361129467683753853853498429727072845818*21267647932558653966460912964485513215:=Int.mul_le_mul (by omega) (by omega) (by omega) (by decide)
 have hE:n3 x0 x1 x2*y0=x0*y0+18446744073709551616*(x1*y0)+340282366920938463463374607431768211456*(x2*y0):=by unfold n3;grind
 have q0:=mT (x0*y0+0)
 have m0:=eN gD fG
 have Km:U (uh (x0*y0+0)):=Av gD fG U0
 have ul0:U (ul (x0*y0+0)):=dU _
 have q1:=mT (x1*y0+uh (x0*y0+0))
 have m1:=eN gE fG
 have RS:U (uh (x1*y0+uh (x0*y0+0))):=Av gE fG Km
 have ul1:U (ul (x1*y0+uh (x0*y0+0))):=dU _
 have q2:=mT (x2*y0+uh (x1*y0+uh (x0*y0+0)))
 have m2:=eN nJ fG
 have uh2:U (uh (x2*y0+uh (x1*y0+uh (x0*y0+0)))):=Av nJ fG RS
 have ul2:U (ul (x2*y0+uh (x1*y0+uh (x0*y0+0)))):=dU _
 have hb:(y0==0)=false:=by simpa using CB
 have hS:n4 (ul (x0*y0+0)) (ul (x1*y0+uh (x0*y0+0))) (ul (x2*y0+uh (x1*y0+uh (x0*y0+0)))) (uh (x2*y0+uh (x1*y0+uh (x0*y0+0))))=n3 x0 x1 x2*y0:=by
  rw [hE]
  unfold n4
  generalize x0*y0=z0 at *
  generalize x1*y0=z1 at *
  generalize x2*y0=z2 at *
  omega
 have Pb:U (ul (x0*y0+0))/\U (ul (x1*y0+uh (x0*y0+0)))/\U (ul (x2*y0+uh (x1*y0+uh (x0*y0+0))))/\U (uh (x2*y0+uh (x1*y0+uh (x0*y0+0)))):=by refine ⟨?_,?_,?_,?_⟩ <;> first | exact U0 | assumption | exact dU _
 obtain ⟨Am,Al,Fk,Ua⟩:=Pb
 have:=Am.1;have:=Am.2;have:=Al.1;have:=Al.2;have:=Fk.1;have:=Fk.2;have:=Ua.1;have:=Ua.2
 by_cases ht:uh (x2*y0+uh (x1*y0+uh (x0*y0+0)))=0
 .have hz:(ul (x2*y0+uh (x1*y0+uh (x0*y0+0)))≠0)=True:=eq_true (by intro e;rw [e,ht] at hS;clear hE;unfold n4 at hS;generalize n3 x0 x1 x2*y0=zz at hS oF Pg;omega)
  have hn:nl [ul (x0*y0+0),ul (x1*y0+uh (x0*y0+0)),ul (x2*y0+uh (x1*y0+uh (x0*y0+0))),0]=3:=(gI [ul (x0*y0+0),ul (x1*y0+uh (x0*y0+0)),ul (x2*y0+uh (x1*y0+uh (x0*y0+0)))]).trans (by simp only [nl,if_neg (of_eq_true hz)])
  have hS:n3 (ul (x0*y0+0)) (ul (x1*y0+uh (x0*y0+0))) (ul (x2*y0+uh (x1*y0+uh (x0*y0+0))))=n3 x0 x1 x2*y0:=by rw [<- hS,ht];unfold n4 n3;omega
  rw [<- hS]
  exact jQ ((oH true 0 3).call (aAu ca ct x0 x1 x2 y0 xs ys) (aA (by simp only [sh,bX,gD,gE,nJ,fG,U0,K0,dU,Km,RS,uh2,hb,ht,hz,hn,and_true,true_and]))) rfl ⟨⟨rfl,fun _=>rfl⟩,⟨rfl,fun _=>rfl⟩,trivial⟩
 .have hz:(uh (x2*y0+uh (x1*y0+uh (x0*y0+0)))≠0)=True:=eq_true ht
  have hn:nl [ul (x0*y0+0),ul (x1*y0+uh (x0*y0+0)),ul (x2*y0+uh (x1*y0+uh (x0*y0+0))),uh (x2*y0+uh (x1*y0+uh (x0*y0+0)))]=4:=by simp only [nl,if_neg ht]
  rw [<- hS]
  exact jQ ((oH true 0 4).call (aAt ca ct x0 x1 x2 y0 xs ys) (aA (by simp only [sh,bX,gD,gE,nJ,fG,U0,K0,dU,Km,RS,uh2,hb,hz,hn,and_true,true_and]))) rfl ⟨⟨rfl,fun _=>rfl⟩,⟨rfl,fun _=>rfl⟩,trivial⟩
open M in
set_option maxHeartbeats 1000000 in
theorem AI (ca ct:Nat) (xs ys:List SV) {x0 x1 y0 y1:Int} (gD:U x0) (gE:U x1) (fG:U y0) (iC:U y1) (hzx:x1≠0) (CB:y1≠0) (hN:(x0+18446744073709551616*x1)<bA) (hT:(y0+18446744073709551616*y1)<21267647932558653966460912964485513216):aF Tryz.prog Γv 97 jG (fun l=>look l (sK (.aG 64 false 0 2 ca) (.aG 65 false 0 2 ct) (ww x0 (ww x1 xs)) (ww y0 (ww y1 ys)))) 100 100
 { val:=.ptr 100 true 0,new:=rB (((x0+18446744073709551616*x1)*(y0+18446744073709551616*y1))%bA) 8,wr:=mP (.aG 64 false 0 2 ca) (.aG 65 false 0 2 ct) (ww y0 (ww y1 ys)) }:=by
 have:=gD.1;have:=gD.2;have:=gE.1;have:=gE.2;have:=fG.1;have:=fG.2;have:=iC.1;have:=iC.2
 have DH:(x0+18446744073709551616*x1)<1361129467683753853853498429727072845819:=hN
 have Bg:18446744073709551616<=(x0+18446744073709551616*x1):=by omega
 have Bf:18446744073709551616<=(y0+18446744073709551616*y1):=by omega
 have oF:340282366920938463463374607431768211456<=(x0+18446744073709551616*x1)*(y0+18446744073709551616*y1):=Int.le_trans (by decide) (Int.mul_le_mul Bg Bf (by decide) (by omega))
 have Pg:(x0+18446744073709551616*x1)*(y0+18446744073709551616*y1)<=1361129467683753853853498429727072845818*21267647932558653966460912964485513215:=Int.mul_le_mul (by omega) (by omega) (by omega) (by decide)
 have hE:(x0+18446744073709551616*x1)*(y0+18446744073709551616*y1)=x0*y0+18446744073709551616*(x0*y1)+18446744073709551616*(x1*y0)+340282366920938463463374607431768211456*(x1*y1):=by grind
 cases DS:(y0 != 0) with
 | false=>
   have CU:=eN gD iC
   obtain ⟨qa0,Hu,xA⟩:q0 x0 y1+18446744073709551616*k0 x0 y1=x0*y1+0+0/\U (q0 x0 y1)/\U (k0 x0 y1):=mV CU.1 CU.2 U0 U0
   have CT:=eN gE iC
   obtain ⟨qa1,Au,yY⟩:q1 x0 x1 y1+18446744073709551616*k1 x0 x1 y1=x1*y1+0+k0 x0 y1/\U (q1 x0 x1 y1)/\U (k1 x0 x1 y1):=mV CT.1 CT.2 U0 xA
   have hb:(y0 != 0)=false:=by simpa using DS
   have y00:y0=0:=by simpa using hb
   have qH:(y1 != 0)=true:=by simpa using CB
   rw [y00] at hE
   simp only [Int.mul_zero,Int.zero_add,Int.add_zero] at hE
   have hS:n4 0 (q0 x0 y1) (q1 x0 x1 y1) (k1 x0 x1 y1)=(x0+18446744073709551616*x1)*(y0+18446744073709551616*y1):=by
    rw [y00,Int.zero_add,hE]
    unfold n4
    generalize x0*y1=z0 at *
    generalize x1*y1=z1 at *
    omega
   have Pb:U (0)/\U (q0 x0 y1)/\U (q1 x0 x1 y1)/\U (k1 x0 x1 y1):=by refine ⟨?_,?_,?_,?_⟩ <;> first | exact U0 | assumption | exact dU _
   obtain ⟨Am,Al,Fk,Ua⟩:=Pb
   have:=Am.1;have:=Am.2;have:=Al.1;have:=Al.2;have:=Fk.1;have:=Fk.2;have:=Ua.1;have:=Ua.2
   by_cases ht:k1 x0 x1 y1=0
   .have hz:(q1 x0 x1 y1≠0)=True:=eq_true (by intro e;rw [e,ht] at hS;clear hE;unfold n4 at hS;generalize (x0+18446744073709551616*x1)*(y0+18446744073709551616*y1)=zz at hS oF Pg;omega)
    have hn:nl [0,q0 x0 y1,q1 x0 x1 y1,0]=3:=(gI [0,q0 x0 y1,q1 x0 x1 y1]).trans (by simp only [nl,if_neg (of_eq_true hz)])
    have hS:n3 0 (q0 x0 y1) (q1 x0 x1 y1)=(x0+18446744073709551616*x1)*(y0+18446744073709551616*y1):=by rw [<- hS,ht];unfold n4 n3;omega
    rw [<- hS]
    exact jQ ((oH false 0 3).call (MJ ca ct x0 x1 y0 y1 xs ys) (aA (by simp only [sh,bX,gD,gE,fG,iC,U0,K0,dU,Hu,xA,Au,yY,hb,qH,ht,hz,hn,and_true,true_and]))) rfl ⟨⟨rfl,fun _=>rfl⟩,⟨rfl,fun _=>rfl⟩,trivial⟩
   .have hz:(k1 x0 x1 y1≠0)=True:=eq_true ht
    have hn:nl [0,q0 x0 y1,q1 x0 x1 y1,k1 x0 x1 y1]=4:=by simp only [nl,if_neg ht]
    rw [<- hS]
    exact jQ ((oH false 0 4).call (MI ca ct x0 x1 y0 y1 xs ys) (aA (by simp only [sh,bX,gD,gE,fG,iC,U0,K0,dU,Hu,xA,Au,yY,hb,qH,hz,hn,and_true,true_and]))) rfl ⟨⟨rfl,fun _=>rfl⟩,⟨rfl,fun _=>rfl⟩,trivial⟩
 | true=>
   have CU:=eN gD fG
   obtain ⟨qa0,Hu,xA⟩:q0 x0 y0+18446744073709551616*k0 x0 y0=x0*y0+0+0/\U (q0 x0 y0)/\U (k0 x0 y0):=mV CU.1 CU.2 U0 U0
   have CT:=eN gE fG
   obtain ⟨qa1,Au,yY⟩:q1 x0 x1 y0+18446744073709551616*k1 x0 x1 y0=x1*y0+0+k0 x0 y0/\U (q1 x0 x1 y0)/\U (k1 x0 x1 y0):=mV CT.1 CT.2 U0 xA
   have mb0:=eN gD iC
   obtain ⟨qb0,SQ,Yh⟩:r0 x0 x1 y0 y1+18446744073709551616*Hm x0 x1 y0 y1=x0*y1+q1 x0 x1 y0+0/\U (r0 x0 x1 y0 y1)/\U (Hm x0 x1 y0 y1):=mV mb0.1 mb0.2 Au U0
   have mb1:=eN gE iC
   obtain ⟨qb1,SP,DL⟩:e1 x0 x1 y0 y1+18446744073709551616*f1 x0 x1 y0 y1=x1*y1+k1 x0 x1 y0+Hm x0 x1 y0 y1/\U (e1 x0 x1 y0 y1)/\U (f1 x0 x1 y0 y1):=mV mb1.1 mb1.2 yY Yh
   have hb:(y0 != 0)=true:=DS
   have qH:(y1 != 0)=true:=by simpa using CB
   have hS:n4 (q0 x0 y0) (r0 x0 x1 y0 y1) (e1 x0 x1 y0 y1) (f1 x0 x1 y0 y1)=(x0+18446744073709551616*x1)*(y0+18446744073709551616*y1):=by
    rw [hE]
    unfold n4
    generalize x0*y0=z0 at *
    generalize x0*y1=z1 at *
    generalize x1*y0=z2 at *
    generalize x1*y1=z3 at *
    omega
   have Pb:U (q0 x0 y0)/\U (r0 x0 x1 y0 y1)/\U (e1 x0 x1 y0 y1)/\U (f1 x0 x1 y0 y1):=by refine ⟨?_,?_,?_,?_⟩ <;> first | exact U0 | assumption | exact dU _
   obtain ⟨Am,Al,Fk,Ua⟩:=Pb
   have:=Am.1;have:=Am.2;have:=Al.1;have:=Al.2;have:=Fk.1;have:=Fk.2;have:=Ua.1;have:=Ua.2
   by_cases ht:f1 x0 x1 y0 y1=0
   .have hz:(e1 x0 x1 y0 y1≠0)=True:=eq_true (by intro e;rw [e,ht] at hS;clear hE;unfold n4 at hS;generalize (x0+18446744073709551616*x1)*(y0+18446744073709551616*y1)=zz at hS oF Pg;omega)
    have hn:nl [q0 x0 y0,r0 x0 x1 y0 y1,e1 x0 x1 y0 y1,0]=3:=(gI [q0 x0 y0,r0 x0 x1 y0 y1,e1 x0 x1 y0 y1]).trans (by simp only [nl,if_neg (of_eq_true hz)])
    have hS:n3 (q0 x0 y0) (r0 x0 x1 y0 y1) (e1 x0 x1 y0 y1)=(x0+18446744073709551616*x1)*(y0+18446744073709551616*y1):=by rw [<- hS,ht];unfold n4 n3;omega
    rw [<- hS]
    exact jQ ((oH true 0 3).call (aAx ca ct x0 x1 y0 y1 xs ys) (aA (by simp only [sh,bX,gD,gE,fG,iC,U0,K0,dU,Hu,xA,Au,yY,SQ,Yh,SP,DL,hb,qH,ht,hz,hn,and_true,true_and]))) rfl ⟨⟨rfl,fun _=>rfl⟩,⟨rfl,fun _=>rfl⟩,trivial⟩
   .have hz:(f1 x0 x1 y0 y1≠0)=True:=eq_true ht
    have hn:nl [q0 x0 y0,r0 x0 x1 y0 y1,e1 x0 x1 y0 y1,f1 x0 x1 y0 y1]=4:=by simp only [nl,if_neg ht]
    rw [<- hS]
    exact jQ ((oH true 0 4).call (aAw ca ct x0 x1 y0 y1 xs ys) (aA (by simp only [sh,bX,gD,gE,fG,iC,U0,K0,dU,Hu,xA,Au,yY,SQ,Yh,SP,DL,hb,qH,hz,hn,and_true,true_and]))) rfl ⟨⟨rfl,fun _=>rfl⟩,⟨rfl,fun _=>rfl⟩,trivial⟩
open M in
set_option maxHeartbeats 1000000 in
theorem AF (ca ct:Nat) (xs ys:List SV) {x0 x1 x2 y0 y1:Int} (gD:U x0) (gE:U x1) (nJ:U x2) (fG:U y0) (iC:U y1) (hzx:x2≠0) (CB:y1≠0) (hN:n3 x0 x1 x2<bA) (hT:(y0+18446744073709551616*y1)<21267647932558653966460912964485513216):aF Tryz.prog Γv 97 jG (fun l=>look l (sK (.aG 64 false 0 3 ca) (.aG 65 false 0 2 ct) (ww x0 (ww x1 (ww x2 xs))) (ww y0 (ww y1 ys)))) 100 100
 { val:=.ptr 100 true 0,new:=rB ((n3 x0 x1 x2*(y0+18446744073709551616*y1))%bA) 9,wr:=mP (.aG 64 false 0 3 ca) (.aG 65 false 0 2 ct) (ww y0 (ww y1 ys)) }:=by
 have:=gD.1;have:=gD.2;have:=gE.1;have:=gE.2;have:=nJ.1;have:=nJ.2;have:=fG.1;have:=fG.2;have:=iC.1;have:=iC.2
 have DH:n3 x0 x1 x2<1361129467683753853853498429727072845819:=hN
 have Bg:340282366920938463463374607431768211456<=n3 x0 x1 x2:=by unfold n3;omega
 have Bf:18446744073709551616<=(y0+18446744073709551616*y1):=by omega
 have oF:6277101735386680763835789423207666416102355444464034512896<=n3 x0 x1 x2*(y0+18446744073709551616*y1):=Int.le_trans (by decide) (Int.mul_le_mul Bg Bf (by decide) (by omega))
 have Pg:n3 x0 x1 x2*(y0+18446744073709551616*y1)<=1361129467683753853853498429727072845818*21267647932558653966460912964485513215:=Int.mul_le_mul (by omega) (by omega) (by omega) (by decide)
 have hE:n3 x0 x1 x2*(y0+18446744073709551616*y1)=x0*y0+18446744073709551616*(x0*y1)+18446744073709551616*(x1*y0)+340282366920938463463374607431768211456*(x1*y1)+340282366920938463463374607431768211456*(x2*y0)+6277101735386680763835789423207666416102355444464034512896*(x2*y1):=by unfold n3;grind
 cases DS:(y0 != 0) with
 | false=>
   have CU:=eN gD iC
   obtain ⟨qa0,Hu,xA⟩:q0 x0 y1+18446744073709551616*k0 x0 y1=x0*y1+0+0/\U (q0 x0 y1)/\U (k0 x0 y1):=mV CU.1 CU.2 U0 U0
   have CT:=eN gE iC
   obtain ⟨qa1,Au,yY⟩:q1 x0 x1 y1+18446744073709551616*k1 x0 x1 y1=x1*y1+0+k0 x0 y1/\U (q1 x0 x1 y1)/\U (k1 x0 x1 y1):=mV CT.1 CT.2 U0 xA
   have ma2:=eN nJ iC
   obtain ⟨qa2,SR,SO⟩:q2 x0 x1 x2 y1+18446744073709551616*k2 x0 x1 x2 y1=x2*y1+0+k1 x0 x1 y1/\U (q2 x0 x1 x2 y1)/\U (k2 x0 x1 x2 y1):=mV ma2.1 ma2.2 U0 yY
   have hb:(y0 != 0)=false:=by simpa using DS
   have y00:y0=0:=by simpa using hb
   have qH:(y1 != 0)=true:=by simpa using CB
   rw [y00] at hE
   simp only [Int.mul_zero,Int.zero_add,Int.add_zero] at hE
   have hS:n4 0 (q0 x0 y1) (q1 x0 x1 y1) (q2 x0 x1 x2 y1)+115792089237316195423570985008687907853269984665640564039457584007913129639936*(k2 x0 x1 x2 y1)=n3 x0 x1 x2*(y0+18446744073709551616*y1):=by
    rw [y00,Int.zero_add,hE]
    unfold n4
    generalize x0*y1=z0 at *
    generalize x1*y1=z1 at *
    generalize x2*y1=z2 at *
    omega
   have Pb:U (0)/\U (q0 x0 y1)/\U (q1 x0 x1 y1)/\U (q2 x0 x1 x2 y1)/\U (k2 x0 x1 x2 y1):=by refine ⟨?_,?_,?_,?_,?_⟩ <;> first | exact U0 | assumption | exact dU _
   obtain ⟨Am,Al,Fk,Ua,uw4⟩:=Pb
   have:=Am.1;have:=Am.2;have:=Al.1;have:=Al.2;have:=Fk.1;have:=Fk.2;have:=Ua.1;have:=Ua.2;have:=uw4.1;have:=uw4.2
   have ht:k2 x0 x1 x2 y1=0:=by clear hE;unfold n4 at hS;generalize n3 x0 x1 x2*(y0+18446744073709551616*y1)=zz at hS oF Pg;omega
   have hz:(q2 x0 x1 x2 y1≠0)=True:=eq_true (by intro e;rw [e,ht] at hS;clear hE;unfold n4 at hS;generalize n3 x0 x1 x2*(y0+18446744073709551616*y1)=zz at hS oF Pg;omega)
   have hn:nl [0,q0 x0 y1,q1 x0 x1 y1,q2 x0 x1 x2 y1,0]=4:=(gI [0,q0 x0 y1,q1 x0 x1 y1,q2 x0 x1 x2 y1]).trans (by simp only [nl,if_neg (of_eq_true hz)])
   rw [ht,Int.mul_zero,Int.add_zero] at hS
   rw [<- hS]
   exact jQ ((oH false 0 4).call (MH ca ct x0 x1 x2 y0 y1 xs ys) (aA (by simp only [sh,bX,gD,gE,nJ,fG,iC,U0,K0,dU,Hu,xA,Au,yY,SR,SO,hb,qH,ht,hz,hn,and_true,true_and]))) rfl ⟨⟨rfl,fun _=>rfl⟩,⟨rfl,fun _=>rfl⟩,trivial⟩
 | true=>
   have CU:=eN gD fG
   obtain ⟨qa0,Hu,xA⟩:q0 x0 y0+18446744073709551616*k0 x0 y0=x0*y0+0+0/\U (q0 x0 y0)/\U (k0 x0 y0):=mV CU.1 CU.2 U0 U0
   have CT:=eN gE fG
   obtain ⟨qa1,Au,yY⟩:q1 x0 x1 y0+18446744073709551616*k1 x0 x1 y0=x1*y0+0+k0 x0 y0/\U (q1 x0 x1 y0)/\U (k1 x0 x1 y0):=mV CT.1 CT.2 U0 xA
   have ma2:=eN nJ fG
   obtain ⟨qa2,SR,SO⟩:q2 x0 x1 x2 y0+18446744073709551616*k2 x0 x1 x2 y0=x2*y0+0+k1 x0 x1 y0/\U (q2 x0 x1 x2 y0)/\U (k2 x0 x1 x2 y0):=mV ma2.1 ma2.2 U0 yY
   have mb0:=eN gD iC
   obtain ⟨qb0,SQ,Yh⟩:r0 x0 x1 y0 y1+18446744073709551616*Hm x0 x1 y0 y1=x0*y1+q1 x0 x1 y0+0/\U (r0 x0 x1 y0 y1)/\U (Hm x0 x1 y0 y1):=mV mb0.1 mb0.2 Au U0
   have mb1:=eN gE iC
   obtain ⟨qb1,SP,DL⟩:r1 x0 x1 x2 y0 y1+18446744073709551616*s1' x0 x1 x2 y0 y1=x1*y1+q2 x0 x1 x2 y0+Hm x0 x1 y0 y1/\U (r1 x0 x1 x2 y0 y1)/\U (s1' x0 x1 x2 y0 y1):=mV mb1.1 mb1.2 SR Yh
   have mb2:=eN nJ iC
   obtain ⟨qb2,aVc,aVb⟩:r2 x0 x1 x2 y0 y1+18446744073709551616*RU x0 x1 x2 y0 y1=x2*y1+k2 x0 x1 x2 y0+s1' x0 x1 x2 y0 y1/\U (r2 x0 x1 x2 y0 y1)/\U (RU x0 x1 x2 y0 y1):=mV mb2.1 mb2.2 SO DL
   have hb:(y0 != 0)=true:=DS
   have qH:(y1 != 0)=true:=by simpa using CB
   have hS:n4 (q0 x0 y0) (r0 x0 x1 y0 y1) (r1 x0 x1 x2 y0 y1) (r2 x0 x1 x2 y0 y1)+115792089237316195423570985008687907853269984665640564039457584007913129639936*(RU x0 x1 x2 y0 y1)=n3 x0 x1 x2*(y0+18446744073709551616*y1):=by
    rw [hE]
    unfold n4
    generalize x0*y0=z0 at *
    generalize x0*y1=z1 at *
    generalize x1*y0=z2 at *
    generalize x1*y1=z3 at *
    generalize x2*y0=z4 at *
    generalize x2*y1=z5 at *
    omega
   have Pb:U (q0 x0 y0)/\U (r0 x0 x1 y0 y1)/\U (r1 x0 x1 x2 y0 y1)/\U (r2 x0 x1 x2 y0 y1)/\U (RU x0 x1 x2 y0 y1):=by refine ⟨?_,?_,?_,?_,?_⟩ <;> first | exact U0 | assumption | exact dU _
   obtain ⟨Am,Al,Fk,Ua,uw4⟩:=Pb
   have:=Am.1;have:=Am.2;have:=Al.1;have:=Al.2;have:=Fk.1;have:=Fk.2;have:=Ua.1;have:=Ua.2;have:=uw4.1;have:=uw4.2
   have ht:RU x0 x1 x2 y0 y1=0:=by clear hE;unfold n4 at hS;generalize n3 x0 x1 x2*(y0+18446744073709551616*y1)=zz at hS oF Pg;omega
   have hz:(r2 x0 x1 x2 y0 y1≠0)=True:=eq_true (by intro e;rw [e,ht] at hS;clear hE;unfold n4 at hS;generalize n3 x0 x1 x2*(y0+18446744073709551616*y1)=zz at hS oF Pg;omega)
   have hn:nl [q0 x0 y0,r0 x0 x1 y0 y1,r1 x0 x1 x2 y0 y1,r2 x0 x1 x2 y0 y1,0]=4:=(gI [q0 x0 y0,r0 x0 x1 y0 y1,r1 x0 x1 x2 y0 y1,r2 x0 x1 x2 y0 y1]).trans (by simp only [nl,if_neg (of_eq_true hz)])
   rw [ht,Int.mul_zero,Int.add_zero] at hS
   rw [<- hS]
   exact jQ ((oH true 0 4).call (aAs ca ct x0 x1 x2 y0 y1 xs ys) (aA (by simp only [sh,bX,gD,gE,nJ,fG,iC,U0,K0,dU,Hu,xA,Au,yY,SR,SO,SQ,Yh,SP,DL,aVc,aVb,hb,qH,ht,hz,hn,and_true,true_and]))) rfl ⟨⟨rfl,fun _=>rfl⟩,⟨rfl,fun _=>rfl⟩,trivial⟩
namespace M
theorem sh1 {b:Int} (h:Bt b):dI .u64 (IntKind.u64.wrap b) 8=b*256:=by
 have:=h.1;have:=h.2
 have e:IntKind.u64.wrap b=b:=by rw [bP];unfold ul;omega
 rw [e]
 show IntKind.u64.wrap (b*256)=_
 rw [bP];unfold ul;omega
theorem or1 {acc b:Int} (h:Bt b) (h0:0<=acc) (h1:acc<256):kN .u64 acc (b*256)=acc+b*256:=by
 have:=h.1;have:=h.2
 obtain ⟨a,rfl⟩:=Int.eq_ofNat_of_zero_le h0
 obtain ⟨b,rfl⟩:=Int.eq_ofNat_of_zero_le h.1
 have e:(b:Int)*256=((b*2^8:Nat):Int):=by rw [Int.natCast_mul];rfl
 have RK:(2:Nat)^8=256:=rfl
 rw [e,CS,CR (by omega) (by omega)]
 omega
theorem sh2 {b:Int} (h:Bt b):dI .u64 (IntKind.u64.wrap b) 16=b*65536:=by
 have:=h.1;have:=h.2
 have e:IntKind.u64.wrap b=b:=by rw [bP];unfold ul;omega
 rw [e]
 show IntKind.u64.wrap (b*65536)=_
 rw [bP];unfold ul;omega
theorem aWx {acc b:Int} (h:Bt b) (h0:0<=acc) (h1:acc<65536):kN .u64 acc (b*65536)=acc+b*65536:=by
 have:=h.1;have:=h.2
 obtain ⟨a,rfl⟩:=Int.eq_ofNat_of_zero_le h0
 obtain ⟨b,rfl⟩:=Int.eq_ofNat_of_zero_le h.1
 have e:(b:Int)*65536=((b*2^16:Nat):Int):=by rw [Int.natCast_mul];rfl
 have RK:(2:Nat)^16=65536:=rfl
 rw [e,CS,CR (by omega) (by omega)]
 omega
theorem sh3 {b:Int} (h:Bt b):dI .u64 (IntKind.u64.wrap b) 24=b*16777216:=by
 have:=h.1;have:=h.2
 have e:IntKind.u64.wrap b=b:=by rw [bP];unfold ul;omega
 rw [e]
 show IntKind.u64.wrap (b*16777216)=_
 rw [bP];unfold ul;omega
theorem or3 {acc b:Int} (h:Bt b) (h0:0<=acc) (h1:acc<16777216):kN .u64 acc (b*16777216)=acc+b*16777216:=by
 have:=h.1;have:=h.2
 obtain ⟨a,rfl⟩:=Int.eq_ofNat_of_zero_le h0
 obtain ⟨b,rfl⟩:=Int.eq_ofNat_of_zero_le h.1
 have e:(b:Int)*16777216=((b*2^24:Nat):Int):=by rw [Int.natCast_mul];rfl
 have RK:(2:Nat)^24=16777216:=rfl
 rw [e,CS,CR (by omega) (by omega)]
 omega
theorem sh4 {b:Int} (h:Bt b):dI .u64 (IntKind.u64.wrap b) 32=b*4294967296:=by
 have:=h.1;have:=h.2
 have e:IntKind.u64.wrap b=b:=by rw [bP];unfold ul;omega
 rw [e]
 show IntKind.u64.wrap (b*4294967296)=_
 rw [bP];unfold ul;omega
theorem or4 {acc b:Int} (h:Bt b) (h0:0<=acc) (h1:acc<4294967296):kN .u64 acc (b*4294967296)=acc+b*4294967296:=by
 have:=h.1;have:=h.2
 obtain ⟨a,rfl⟩:=Int.eq_ofNat_of_zero_le h0
 obtain ⟨b,rfl⟩:=Int.eq_ofNat_of_zero_le h.1
 have e:(b:Int)*4294967296=((b*2^32:Nat):Int):=by rw [Int.natCast_mul];rfl
 have RK:(2:Nat)^32=4294967296:=rfl
 rw [e,CS,CR (by omega) (by omega)]
 omega
theorem sh5 {b:Int} (h:Bt b):dI .u64 (IntKind.u64.wrap b) 40=b*1099511627776:=by
 have:=h.1;have:=h.2
 have e:IntKind.u64.wrap b=b:=by rw [bP];unfold ul;omega
 rw [e]
 show IntKind.u64.wrap (b*1099511627776)=_
 rw [bP];unfold ul;omega
theorem or5 {acc b:Int} (h:Bt b) (h0:0<=acc) (h1:acc<1099511627776):kN .u64 acc (b*1099511627776)=acc+b*1099511627776:=by
 have:=h.1;have:=h.2
 obtain ⟨a,rfl⟩:=Int.eq_ofNat_of_zero_le h0
 obtain ⟨b,rfl⟩:=Int.eq_ofNat_of_zero_le h.1
 have e:(b:Int)*1099511627776=((b*2^40:Nat):Int):=by rw [Int.natCast_mul];rfl
 have RK:(2:Nat)^40=1099511627776:=rfl
 rw [e,CS,CR (by omega) (by omega)]
 omega
theorem sh6 {b:Int} (h:Bt b):dI .u64 (IntKind.u64.wrap b) 48=b*281474976710656:=by
 have:=h.1;have:=h.2
 have e:IntKind.u64.wrap b=b:=by rw [bP];unfold ul;omega
 rw [e]
 show IntKind.u64.wrap (b*281474976710656)=_
 rw [bP];unfold ul;omega
theorem or6 {acc b:Int} (h:Bt b) (h0:0<=acc) (h1:acc<281474976710656):kN .u64 acc (b*281474976710656)=acc+b*281474976710656:=by
 have:=h.1;have:=h.2
 obtain ⟨a,rfl⟩:=Int.eq_ofNat_of_zero_le h0
 obtain ⟨b,rfl⟩:=Int.eq_ofNat_of_zero_le h.1
 have e:(b:Int)*281474976710656=((b*2^48:Nat):Int):=by rw [Int.natCast_mul];rfl
 have RK:(2:Nat)^48=281474976710656:=rfl
 rw [e,CS,CR (by omega) (by omega)]
 omega
theorem sh7 {b:Int} (h:Bt b):dI .u64 (IntKind.u64.wrap b) 56=b*72057594037927936:=by
 have:=h.1;have:=h.2
 have e:IntKind.u64.wrap b=b:=by rw [bP];unfold ul;omega
 rw [e]
 show IntKind.u64.wrap (b*72057594037927936)=_
 rw [bP];unfold ul;omega
theorem or7 {acc b:Int} (h:Bt b) (h0:0<=acc) (h1:acc<72057594037927936):kN .u64 acc (b*72057594037927936)=acc+b*72057594037927936:=by
 have:=h.1;have:=h.2
 obtain ⟨a,rfl⟩:=Int.eq_ofNat_of_zero_le h0
 obtain ⟨b,rfl⟩:=Int.eq_ofNat_of_zero_le h.1
 have e:(b:Int)*72057594037927936=((b*2^56:Nat):Int):=by rw [Int.natCast_mul];rfl
 have RK:(2:Nat)^56=72057594037927936:=rfl
 rw [e,CS,CR (by omega) (by omega)]
 omega
theorem V8 (b0 b1 b2 b3 b4 b5 b6 b7:Int):V [b0,b1,b2,b3,b4,b5,b6,b7]=b0+b1*256+b2*65536+b3*16777216+b4*4294967296+b5*1099511627776+b6*281474976710656+b7*72057594037927936:=by
 simp [V,vs]
 omega
theorem xI {b0 b1 b2 b3 b4 b5 b6 b7:Int} (h0:Bt b0) (h1:Bt b1) (h2:Bt b2) (h3:Bt b3) (h4:Bt b4) (h5:Bt b5) (h6:Bt b6) (h7:Bt b7):iP b0 b1 b2 b3 b4 b5 b6 b7=V [b0,b1,b2,b3,b4,b5,b6,b7]/\U (V [b0,b1,b2,b3,b4,b5,b6,b7]):=by
 have:=h0.1;have:=h0.2;have:=h1.1;have:=h1.2;have:=h2.1;have:=h2.2;have:=h3.1;have:=h3.2;have:=h4.1;have:=h4.2;have:=h5.1;have:=h5.2;have:=h6.1;have:=h6.2;have:=h7.1;have:=h7.2
 have e:IntKind.u64.wrap b0=b0:=by rw [bP];unfold ul;omega
 rw [V8]
 unfold iP
 rw [e,sh1 h1,sh2 h2,sh3 h3,sh4 h4,sh5 h5,sh6 h6,sh7 h7]
 rw [or1 h1 (by omega) (by omega),aWx h2 (by omega) (by omega),or3 h3 (by omega) (by omega),or4 h4 (by omega) (by omega),or5 h5 (by omega) (by omega),or6 h6 (by omega) (by omega),or7 h7 (by omega) (by omega)]
 exact ⟨rfl,by unfold U;omega⟩
theorem aHv {b:Int} (h:b=1):kN .u64 0 (dI .u64 (IntKind.u64.wrap b) 0)=1:=by subst h;decide
end M
open M in
theorem LI {b0  b1  b2  b3  b4  b5  b6  b7  b8  b9  dC  dB  dA  dH  dG  gN  iW:Int} (hb:bR [b0,b1,b2,b3,b4,b5,b6,b7,b8,b9,dC,dB,dA,dH,dG,gN,iW]) (h1:iW=1):aF Tryz.prog Γv 91 [.cP 61 0 17 0] (fun l=>look l [(61,.row 1 (bc [b0,b1,b2,b3,b4,b5,b6,b7,b8,b9,dC,dB,dA,dH,dG,gN,iW]) 5)]) 100 100
 { val:=.ptr 100 true 0,new:=[.own [.bool true false,.aG 101 true 0 3 7] 146,.own (wc [V [b0,b1,b2,b3,b4,b5,b6,b7],V [b8,b9,dC,dB,dA,dH,dG,gN],1,0,0,0,0]) 196],wr:=[(61,.row 1 (bc [b0,b1,b2,b3,b4,b5,b6,b7,b8,b9,dC,dB,dA,dH,dG,gN,iW]) 5)] }:=by
 have hs:aH Tryz.prog (env (Ih 0 3) 22) 91 (aJ (env (Ih 0 3) 22) Tryz.f91 true [] 400):=aM (bQ _ 22) (bW _ (Jn 0 3) 22) mix Tryz.func91 (by kernel_rfl) true [] 400
 have e0:=(xI (hb _ (by simp)) (hb _ (by simp)) (hb _ (by simp)) (hb _ (by simp)) (hb _ (by simp)) (hb _ (by simp)) (hb _ (by simp)) (hb _ (by simp)):M.iP b0 b1 b2 b3 b4 b5 b6 b7=V [b0,b1,b2,b3,b4,b5,b6,b7]/\_).1
 have e1:=(xI (hb _ (by simp)) (hb _ (by simp)) (hb _ (by simp)) (hb _ (by simp)) (hb _ (by simp)) (hb _ (by simp)) (hb _ (by simp)) (hb _ (by simp)):M.iP b8 b9 dC dB dA dH dG gN=V [b8,b9,dC,dB,dA,dH,dG,gN]/\_).1
 have e2:=aHv h1
 refine ((hs.call (n17 b0 b1 b2 b3 b4 b5 b6 b7 b8 b9 dC dB dA dH dG gN iW) (aA ?_)).bE 61 _ rfl (by decide)).re rfl (fun _=>rfl) ⟨⟨rfl,fun _=>rfl⟩,⟨rfl,fun _=>by rw [e0,e1,e2];rfl⟩,trivial⟩ ⟨rfl,rfl,trivial⟩
 simp only [sh,bX,e2,nl,and_true]
 simp
open M in
theorem Zr {b0  b1  b2  b3  b4  b5  b6  b7  b8  b9  dC  dB  dA  dH  dG  gN  iW  mL  mK  mJ  mI  mH  mG  mF  mE  mD  mC  mB  mA  lZ  lY  lX:Int} (hb:bR [b0,b1,b2,b3,b4,b5,b6,b7,b8,b9,dC,dB,dA,dH,dG,gN,iW,mL,mK,mJ,mI,mH,mG,mF,mE,mD,mC,mB,mA,lZ,lY,lX]):aF Tryz.prog Γv 91 [.aG 61 true 0 16 32] (fun l=>look l [(61,.fP (bc [b0,b1,b2,b3,b4,b5,b6,b7,b8,b9,dC,dB,dA,dH,dG,gN,iW,mL,mK,mJ,mI,mH,mG,mF,mE,mD,mC,mB,mA,lZ,lY,lX]))]) 100 100
 { val:=.ptr 100 true 0,new:=[.own [.bool true false,.aG 101 false 0 (nl [V [b0,b1,b2,b3,b4,b5,b6,b7],V [b8,b9,dC,dB,dA,dH,dG,gN]]) 6] 146,.own (wc [V [b0,b1,b2,b3,b4,b5,b6,b7],V [b8,b9,dC,dB,dA,dH,dG,gN],0,0,0,0]) 196] }:=by
 have hs:∀ iq,aH Tryz.prog (env (Ih iq 0) 22) 91 (aJ (env (Ih iq 0) 22) Tryz.f91 true [] 400):=fun iq=>aM (bQ _ 22) (bW _ (Jn iq 0) 22) mix Tryz.func91 (by kernel_rfl) true [] 400
 have e0:=(xI (hb _ (by simp)) (hb _ (by simp)) (hb _ (by simp)) (hb _ (by simp)) (hb _ (by simp)) (hb _ (by simp)) (hb _ (by simp)) (hb _ (by simp)):M.iP b0 b1 b2 b3 b4 b5 b6 b7=V [b0,b1,b2,b3,b4,b5,b6,b7]/\_).1
 have e1:=(xI (hb _ (by simp)) (hb _ (by simp)) (hb _ (by simp)) (hb _ (by simp)) (hb _ (by simp)) (hb _ (by simp)) (hb _ (by simp)) (hb _ (by simp)):M.iP b8 b9 dC dB dA dH dG gN=V [b8,b9,dC,dB,dA,dH,dG,gN]/\_).1
 rcases RV (V [b0,b1,b2,b3,b4,b5,b6,b7]) (V [b8,b9,dC,dB,dA,dH,dG,gN]) with ⟨h,_⟩ | ⟨h,_⟩ | ⟨h,_⟩
 .refine ((hs 0).call (ZB b0 b1 b2 b3 b4 b5 b6 b7 b8 b9 dC dB dA dH dG gN iW mL mK mJ mI mH mG mF mE mD mC mB mA lZ lY lX) (aA ?_)).re rfl (fun _=>rfl) ⟨⟨rfl,fun _=>by rw [h];rfl⟩,⟨rfl,fun _=>by rw [e0,e1];rfl⟩,trivial⟩ trivial
  simp only [sh,bX,e0,e1,h,and_true]
 .refine ((hs 1).call (ZA b0 b1 b2 b3 b4 b5 b6 b7 b8 b9 dC dB dA dH dG gN iW mL mK mJ mI mH mG mF mE mD mC mB mA lZ lY lX) (aA ?_)).re rfl (fun _=>rfl) ⟨⟨rfl,fun _=>by rw [h];rfl⟩,⟨rfl,fun _=>by rw [e0,e1];rfl⟩,trivial⟩ trivial
  simp only [sh,bX,e0,e1,h,and_true]
 .refine ((hs 2).call (YZ b0 b1 b2 b3 b4 b5 b6 b7 b8 b9 dC dB dA dH dG gN iW mL mK mJ mI mH mG mF mE mD mC mB mA lZ lY lX) (aA ?_)).re rfl (fun _=>rfl) ⟨⟨rfl,fun _=>by rw [h];rfl⟩,⟨rfl,fun _=>by rw [e0,e1];rfl⟩,trivial⟩ trivial
  simp only [sh,bX,e0,e1,h,and_true]
open M in
theorem Sn {b0  b1  b2  b3  b4  b5  b6  b7  b8  b9  dC  dB  dA  dH  dG  gN  iW  mL  mK  mJ  mI  mH  mG  mF  mE  mD  mC  mB  mA  lZ  lY  lX:Int} (hb:bR [b0,b1,b2,b3,b4,b5,b6,b7,b8,b9,dC,dB,dA,dH,dG,gN,iW,mL,mK,mJ,mI,mH,mG,mF,mE,mD,mC,mB,mA,lZ,lY,lX]):aF Tryz.prog Γv 91 [.aG 61 true 16 16 16] (fun l=>look l [(61,.fP (bc [b0,b1,b2,b3,b4,b5,b6,b7,b8,b9,dC,dB,dA,dH,dG,gN,iW,mL,mK,mJ,mI,mH,mG,mF,mE,mD,mC,mB,mA,lZ,lY,lX]))]) 100 100
 { val:=.ptr 100 true 0,new:=[.own [.bool true false,.aG 101 false 0 (nl [V [iW,mL,mK,mJ,mI,mH,mG,mF],V [mE,mD,mC,mB,mA,lZ,lY,lX]]) 6] 146,.own (wc [V [iW,mL,mK,mJ,mI,mH,mG,mF],V [mE,mD,mC,mB,mA,lZ,lY,lX],0,0,0,0]) 196] }:=by
 have hs:∀ iq,aH Tryz.prog (env (Ih iq 0) 22) 91 (aJ (env (Ih iq 0) 22) Tryz.f91 true [] 400):=fun iq=>aM (bQ _ 22) (bW _ (Jn iq 0) 22) mix Tryz.func91 (by kernel_rfl) true [] 400
 have e0:=(xI (hb _ (by simp)) (hb _ (by simp)) (hb _ (by simp)) (hb _ (by simp)) (hb _ (by simp)) (hb _ (by simp)) (hb _ (by simp)) (hb _ (by simp)):M.iP iW mL mK mJ mI mH mG mF=V [iW,mL,mK,mJ,mI,mH,mG,mF]/\_).1
 have e1:=(xI (hb _ (by simp)) (hb _ (by simp)) (hb _ (by simp)) (hb _ (by simp)) (hb _ (by simp)) (hb _ (by simp)) (hb _ (by simp)) (hb _ (by simp)):M.iP mE mD mC mB mA lZ lY lX=V [mE,mD,mC,mB,mA,lZ,lY,lX]/\_).1
 rcases RV (V [iW,mL,mK,mJ,mI,mH,mG,mF]) (V [mE,mD,mC,mB,mA,lZ,lY,lX]) with ⟨h,_⟩ | ⟨h,_⟩ | ⟨h,_⟩
 .refine ((hs 0).call (LL b0 b1 b2 b3 b4 b5 b6 b7 b8 b9 dC dB dA dH dG gN iW mL mK mJ mI mH mG mF mE mD mC mB mA lZ lY lX) (aA ?_)).re rfl (fun _=>rfl) ⟨⟨rfl,fun _=>by rw [h];rfl⟩,⟨rfl,fun _=>by rw [e0,e1];rfl⟩,trivial⟩ trivial
  simp only [sh,bX,e0,e1,h,and_true]
 .refine ((hs 1).call (LK b0 b1 b2 b3 b4 b5 b6 b7 b8 b9 dC dB dA dH dG gN iW mL mK mJ mI mH mG mF mE mD mC mB mA lZ lY lX) (aA ?_)).re rfl (fun _=>rfl) ⟨⟨rfl,fun _=>by rw [h];rfl⟩,⟨rfl,fun _=>by rw [e0,e1];rfl⟩,trivial⟩ trivial
  simp only [sh,bX,e0,e1,h,and_true]
 .refine ((hs 2).call (LJ b0 b1 b2 b3 b4 b5 b6 b7 b8 b9 dC dB dA dH dG gN iW mL mK mJ mI mH mG mF mE mD mC mB mA lZ lY lX) (aA ?_)).re rfl (fun _=>rfl) ⟨⟨rfl,fun _=>by rw [h];rfl⟩,⟨rfl,fun _=>by rw [e0,e1];rfl⟩,trivial⟩ trivial
  simp only [sh,bX,e0,e1,h,and_true]
def aWv:Option SB->Option (List Int)
 | some (.own cs _)=>cX .u8 cs
 | some (.ints .u8 xs _)=>some xs
 | _=>none
open M in
def Qy (vs:List SV) (T:aZ):Option Canon:=match vs with
 | [.cP l 0 17 0]=>match T l with
   | some (.row 1 cs 5)=>match cX .u8 cs with
     | some [b0,b1,b2,b3,b4,b5,b6,b7,b8,b9,dC,dB,dA,dH,dG,gN,iW]=>some { eR:=[.cP 61 0 17 0],T0:=[(61,.row 1 (bc [b0,b1,b2,b3,b4,b5,b6,b7,b8,b9,dC,dB,dA,dH,dG,gN,iW]) 5)],vl:=[(61,.lab l 0)],e0:={ val:=.ptr 100 true 0,new:=[.own [.bool true false,.aG 101 true 0 3 7] 146,.own (wc [V [b0,b1,b2,b3,b4,b5,b6,b7],V [b8,b9,dC,dB,dA,dH,dG,gN],1,0,0,0,0]) 196],wr:=[(61,.row 1 (bc [b0,b1,b2,b3,b4,b5,b6,b7,b8,b9,dC,dB,dA,dH,dG,gN,iW]) 5)] },conds:=[bR [b0,b1,b2,b3,b4,b5,b6,b7,b8,b9,dC,dB,dA,dH,dG,gN,iW],iW=1] }
     | _=>none
   | _=>none
 | [.aG l true oo 16 c]=>match aWv (T l) with
   | some [b0,b1,b2,b3,b4,b5,b6,b7,b8,b9,dC,dB,dA,dH,dG,gN,iW,mL,mK,mJ,mI,mH,mG,mF,mE,mD,mC,mB,mA,lZ,lY,lX]=>match Nat.beq oo 0&&Nat.beq c 32,Nat.beq oo 16&&Nat.beq c 16 with
     | true,_=>some { eR:=[.aG 61 true 0 16 32],T0:=[(61,.fP (bc [b0,b1,b2,b3,b4,b5,b6,b7,b8,b9,dC,dB,dA,dH,dG,gN,iW,mL,mK,mJ,mI,mH,mG,mF,mE,mD,mC,mB,mA,lZ,lY,lX]))],vl:=[(61,.lab l 0)],e0:={ val:=.ptr 100 true 0,new:=[.own [.bool true false,.aG 101 false 0 (nl [V [b0,b1,b2,b3,b4,b5,b6,b7],V [b8,b9,dC,dB,dA,dH,dG,gN]]) 6] 146,.own (wc [V [b0,b1,b2,b3,b4,b5,b6,b7],V [b8,b9,dC,dB,dA,dH,dG,gN],0,0,0,0]) 196] },conds:=[bR [b0,b1,b2,b3,b4,b5,b6,b7,b8,b9,dC,dB,dA,dH,dG,gN,iW,mL,mK,mJ,mI,mH,mG,mF,mE,mD,mC,mB,mA,lZ,lY,lX]] }
     | _,true=>some { eR:=[.aG 61 true 16 16 16],T0:=[(61,.fP (bc [b0,b1,b2,b3,b4,b5,b6,b7,b8,b9,dC,dB,dA,dH,dG,gN,iW,mL,mK,mJ,mI,mH,mG,mF,mE,mD,mC,mB,mA,lZ,lY,lX]))],vl:=[(61,.lab l 0)],e0:={ val:=.ptr 100 true 0,new:=[.own [.bool true false,.aG 101 false 0 (nl [V [iW,mL,mK,mJ,mI,mH,mG,mF],V [mE,mD,mC,mB,mA,lZ,lY,lX]]) 6] 146,.own (wc [V [iW,mL,mK,mJ,mI,mH,mG,mF],V [mE,mD,mC,mB,mA,lZ,lY,lX],0,0,0,0]) 196] },conds:=[bR [b0,b1,b2,b3,b4,b5,b6,b7,b8,b9,dC,dB,dA,dH,dG,gN,iW,mL,mK,mJ,mI,mH,mG,mF,mE,mD,mC,mB,mA,lZ,lY,lX]] }
     | _,_=>none
   | _=>none
 | _=>none
theorem Ip (Γ:Env) (hg:Γ.aR=aB):aH Tryz.prog Γ 91 (aK aB 100 Qy):=by
 refine aW hg fun vs T c hd hc=>?_
 unfold Qy at hd
 split at hd
 case h_3=>cases hd
 .split at hd
  case h_2=>cases hd
  split at hd
  case h_2=>cases hd
  cases hd
  exact (LI (hc _ (by simp)) (hc _ (by simp))).words (by rw [hg];rfl) (fun _=>rfl) (fun _ _ h=>h) (fun _=>rfl) rfl rfl
 .split at hd
  case h_2=>cases hd
  split at hd
  case h_3=>cases hd
  .cases hd
   exact (Zr (hc _ (by simp))).words (by rw [hg];rfl) (fun _=>rfl) (fun _ _ h=>h) (fun _=>rfl) rfl rfl
  .cases hd
   exact (Sn (hc _ (by simp))).words (by rw [hg];rfl) (fun _=>rfl) (fun _ _ h=>h) (fun _=>rfl) rfl rfl
open M in
def IA (iK:Nat) (vs:List SV) (T:aZ):Option Canon:=match vs with
 | [.agg [.ptr lp true 0],.ptr la true 0,.ptr lb true 0]=>match T la,T lb,T lp with
   | some (.own [.bool _ _,X] 146),some (.own [.bool _ _,.aG ly _ 0 3 7] 146),some (.own [.bool _ _,.aG lq _ 0 3 8] 146)=>match T ly with
     | some (.own ys 196)=>match cX .u64 ys with
       | some (y0::y1::y2::yr)=>match X with
         | .raw (.slice none 0 0)=>match Nat.beq iK 7 with
           | true=>some { eR:=jG,T0:=sK (.raw (.slice none 0 0)) (.aG 65 true 0 3 7) [.int true .i64 40] (ww y0 (ww y1 (ww y2 (wc yr)))),vl:=[(61,.lab la 0),(62,.lab lp 0),(63,.lab lb 0),(64,.lab 17 0),(65,.lab ly 0),(66,.lab lq 0)],e0:={ val:=.ptr 100 true 0,new:=rB ((0+n3 y0 y1 y2)%bA) 7,wr:=mP (.raw (.slice none 0 0)) (.aG 65 true 0 3 7) (ww y0 (ww y1 (ww y2 (wc yr)))) },conds:=[U y0,U y1,y2=1] }
           | false=>none
         | .aG lx _ 0 n ca=>match T lx with
           | some (.own xs 196)=>match cX .u64 xs,Nat.ble 6 ca&&Nat.ble ca 9 with
             | some (x0::x1::x2::xr),true=>match Nat.beq iK 7,Nat.beq iK 8 with
               | true,_=>some { eR:=jG,T0:=sK (.aG 64 false 0 n ca) (.aG 65 true 0 3 7) (ww x0 (ww x1 (ww x2 (wc xr)))) (ww y0 (ww y1 (ww y2 (wc yr)))),vl:=[(61,.lab la 0),(62,.lab lp 0),(63,.lab lb 0),(64,.lab lx 0),(65,.lab ly 0),(66,.lab lq 0)],e0:={ val:=.ptr 100 true 0,new:=rB ((n3 x0 x1 x2+n3 y0 y1 y2)%bA) 7,wr:=mP (.aG 64 false 0 n ca) (.aG 65 true 0 3 7) (ww y0 (ww y1 (ww y2 (wc yr)))) },conds:=[n=nl [x0,x1,x2],n=0,U y0,U y1,y2=1] }
               | _,true=>some { eR:=jG,T0:=sK (.aG 64 false 0 n ca) (.aG 65 true 0 3 7) (ww x0 (ww x1 (ww x2 (wc xr)))) (ww y0 (ww y1 (ww y2 (wc yr)))),vl:=[(61,.lab la 0),(62,.lab lp 0),(63,.lab lb 0),(64,.lab lx 0),(65,.lab ly 0),(66,.lab lq 0)],e0:={ val:=.ptr 100 true 0,new:=rB ((n3 x0 x1 x2+n3 y0 y1 y2)%bA) 8,wr:=mP (.aG 64 false 0 n ca) (.aG 65 true 0 3 7) (ww y0 (ww y1 (ww y2 (wc yr)))) },conds:=[n=nl [x0,x1,x2],n≠0,U x0,U x1,U x2,n3 x0 x1 x2<bA,U y0,U y1,y2=1] }
               | _,_=>none
             | _,_=>none
           | _=>none
         | _=>none
       | _=>none
     | _=>none
   | _,_,_=>none
 | _=>none
open M in
theorem QL {n ca:Nat} (lB:ca=6\/ca=7\/ca=8\/ca=9) (xs ys:List SV) {x0 x1 x2 y0 y1 y2:Int} (hn:n=nl [x0,x1,x2]) (Hq:n≠0) (gD:U x0) (gE:U x1) (nJ:U x2) (hN:n3 x0 x1 x2<bA) (fG:U y0) (iC:U y1) (Fo:y2=1):aF Tryz.prog Γv 95 jG (fun l=>look l (sK (.aG 64 false 0 n ca) (.aG 65 true 0 3 7) (ww x0 (ww x1 (ww x2 xs))) (ww y0 (ww y1 (ww y2 ys))))) 100 100
 { val:=.ptr 100 true 0,new:=rB ((n3 x0 x1 x2+n3 y0 y1 y2)%bA) 8,wr:=mP (.aG 64 false 0 n ca) (.aG 65 true 0 3 7) (ww y0 (ww y1 (ww y2 ys))) }:=by
 rcases nl3 x0 x1 x2 with ⟨h,_⟩ | ⟨h,_,e1,e2⟩ | ⟨h,_,e2⟩ | ⟨h,_⟩
 .omega
 .rw [h] at hn;subst hn
  have e:n3 x0 x1 x2=x0:=by rw [e1,e2];unfold n3;omega
  rw [e] at hN |-
  exact MN lB (ww x1 (ww x2 xs)) ys gD hN fG iC Fo
 .rw [h] at hn;subst hn
  have e:n3 x0 x1 x2=x0+18446744073709551616*x1:=by rw [e2];unfold n3;omega
  rw [e] at hN |-
  exact MM lB (ww x2 xs) ys gD gE hN fG iC Fo
 .rw [h] at hn;subst hn
  exact ML lB xs ys gD gE nJ hN fG iC Fo
open M in
theorem aNs (iK:Nat) (Γ:Env) (hg:Γ.aR=aB):aH Tryz.prog Γ 95 (aK aB 100 (IA iK)):=by
 refine aW hg fun vs T c hd hc=>?_
 unfold IA at hd
 split at hd
 case h_2=>cases hd
 split at hd
 case h_2=>cases hd
 split at hd
 case h_2=>cases hd
 split at hd
 case h_2=>cases hd
 rename_i y0 y1 y2 yr _
 split at hd
 case h_3=>cases hd
 .split at hd
  case h_2=>cases hd
  cases hd
  exact (MK [.int true .i64 40] (wc yr) (hc _ (by simp)) (hc _ (by simp)) (hc _ (by simp))).words (by rw [hg];rfl) (fun _=>rfl) (fun _ _ h=>h) (fun _=>rfl) rfl rfl
 .split at hd
  case h_2=>cases hd
  split at hd
  case h_2=>cases hd
  rename_i n ca _ _ _ _ _ _ x0 x1 x2 xr _ lB
  simp only [Bool.and_eq_true] at lB
  have c1:=Nat.le_of_ble_eq_true lB.1
  have c2:=Nat.le_of_ble_eq_true lB.2
  split at hd
  case h_3=>cases hd
  .cases hd
   have hn:n=nl [x0,x1,x2]:=hc _ (by simp)
   have h0:n=0:=hc _ (by simp)
   rcases nl3 x0 x1 x2 with ⟨h,e0,e1,e2⟩ | ⟨h,_⟩ | ⟨h,_⟩ | ⟨h,_⟩
   .have e:n3 x0 x1 x2=0:=by rw [e0,e1,e2];rfl
    rw [e]
    subst h0
    exact (MO ca _ (wc yr) (hc _ (by simp)) (hc _ (by simp)) (hc _ (by simp))).words (by rw [hg];rfl) (fun _=>rfl) (fun _ _ h=>h) (fun _=>rfl) rfl rfl
   .omega
   .omega
   .omega
  .cases hd
   exact (QL (by omega) (wc xr) (wc yr) (hc _ (by simp)) (hc _ (by simp)) (hc _ (by simp)) (hc _ (by simp)) (hc _ (by simp)) (hc _ (by simp)) (hc _ (by simp)) (hc _ (by simp)) (hc _ (by simp))).words (by rw [hg];rfl) (fun _=>rfl) (fun _ _ h=>h) (fun _=>rfl) rfl rfl
open M in
def GG (gA:Nat) (vs:List SV) (T:aZ):Option Canon:=match vs with
 | [.agg [.ptr lp true 0],.ptr la true 0,.ptr lb true 0]=>match T la,T lb,T lp with
   | some (.own [.bool _ _,.aG lx _ 0 n ca] 146),some (.own [.bool _ _,.aG ly _ 0 m ct] 146),some (.own [.bool _ _,.aG lq _ 0 3 8] 146)=>match T lx,T ly with
     | some (.own xs 196),some (.own ys 196)=>match cX .u64 xs,cX .u64 ys with
       | some (x0::x1::x2::xr),some (y0::y1::yr)=>some { eR:=jG,T0:=sK (.aG 64 false 0 n ca) (.aG 65 false 0 m ct) (ww x0 (ww x1 (ww x2 (wc xr)))) (ww y0 (ww y1 (wc yr))),vl:=[(61,.lab la 0),(62,.lab lp 0),(63,.lab lb 0),(64,.lab lx 0),(65,.lab ly 0),(66,.lab lq 0)],e0:={ val:=.ptr 100 true 0,new:=(match gA with | 0=>nB | c=>rB ((n3 x0 x1 x2*(y0+18446744073709551616*y1))%bA) c),wr:=mP (.aG 64 false 0 n ca) (.aG 65 false 0 m ct) (ww y0 (ww y1 (wc yr))) },conds:=[n=nl [x0,x1,x2],m=nl [y0,y1],gA=(if n=0\/m=0 then 0 else n+m+4),U x0,U x1,U x2,n3 x0 x1 x2<bA,U y0,U y1,y0+18446744073709551616*y1<21267647932558653966460912964485513216] }
       | _,_=>none
     | _,_=>none
   | _,_,_=>none
 | _=>none
open M in
theorem aSk (gA:Nat) (Γ:Env) (hg:Γ.aR=aB):aH Tryz.prog Γ 97 (aK aB 100 (GG gA)):=by
 refine aW hg fun vs T c hd hc=>?_
 unfold GG at hd
 split at hd
 case h_2=>cases hd
 split at hd
 case h_2=>cases hd
 split at hd
 case h_2=>cases hd
 split at hd
 case h_2=>cases hd
 rename_i n ca _ _ _ _ m ct _ _ _ _ _ _ _ _ _ _ _ _ _ _ _ x0 x1 x2 xr y0 y1 yr _ _
 cases hd
 have hn:n=nl [x0,x1,x2]:=hc _ (by simp)
 have hm:m=nl [y0,y1]:=hc _ (by simp)
 have hp:gA=(if n=0\/m=0 then 0 else n+m+4):=hc _ (by simp)
 have gD:U x0:=hc _ (by simp)
 have gE:U x1:=hc _ (by simp)
 have nJ:U x2:=hc _ (by simp)
 have hN:n3 x0 x1 x2<bA:=hc _ (by simp)
 have fG:U y0:=hc _ (by simp)
 have iC:U y1:=hc _ (by simp)
 have hT:y0+18446744073709551616*y1<21267647932558653966460912964485513216:=hc _ (by simp)
 have fin:∀ {e:bJ},aF Tryz.prog Γv 97 jG (fun l=>look l (sK (.aG 64 false 0 n ca) (.aG 65 false 0 m ct) (ww x0 (ww x1 (ww x2 (wc xr)))) (ww y0 (ww y1 (wc yr))))) 100 100 e->aF Tryz.prog Γ 97 jG (fun l=>look l (sK (.aG 64 false 0 n ca) (.aG 65 false 0 m ct) (ww x0 (ww x1 (ww x2 (wc xr)))) (ww y0 (ww y1 (wc yr))))) 100 100 e:=fun h=>h.words (by rw [hg];rfl) (fun _=>rfl) (fun _ _ h=>h) (fun _=>rfl) rfl rfl
 clear hc
 rcases nl3 x0 x1 x2 with ⟨h,_⟩ | ⟨h,z,e1,e2⟩ | ⟨h,z,e2⟩ | ⟨h,z⟩ <;> rw [h] at hn <;> subst hn <;> rcases RV y0 y1 with ⟨k,_⟩ | ⟨k,w,f1⟩ | ⟨k,w⟩ <;> rw [k] at hm <;> subst hm <;> simp at hp <;> subst hp
 .exact fin (AQ ca ct  (ww x0 (ww x1 (ww x2 (wc xr)))) (ww y0 (ww y1 (wc yr))))
 .exact fin (AP ca ct y0 (ww x0 (ww x1 (ww x2 (wc xr)))) (ww y1 (wc yr)))
 .exact fin (AO ca ct y0 y1 (ww x0 (ww x1 (ww x2 (wc xr)))) (wc yr))
 .exact fin (AN ca ct x0 (ww x1 (ww x2 (wc xr))) (ww y0 (ww y1 (wc yr))))
 .have e:n3 x0 x1 x2=x0:=by rw [e1,e2];unfold n3;omega
  rw [e] at hN |-
  have f:y0+18446744073709551616*y1=y0:=by rw [f1];omega
  rw [f] at hT |-
  exact fin (AM ca ct (ww x1 (ww x2 (wc xr))) (ww y1 (wc yr)) gD fG z w hN hT)
 .have e:n3 x0 x1 x2=x0:=by rw [e1,e2];unfold n3;omega
  rw [e] at hN |-
  exact fin (AL ca ct (ww x1 (ww x2 (wc xr))) (wc yr) gD fG iC z w hN hT)
 .exact fin (AK ca ct x0 x1 (ww x2 (wc xr)) (ww y0 (ww y1 (wc yr))))
 .have e:n3 x0 x1 x2=x0+18446744073709551616*x1:=by rw [e2];unfold n3;omega
  rw [e] at hN |-
  have f:y0+18446744073709551616*y1=y0:=by rw [f1];omega
  rw [f] at hT |-
  exact fin (AJ ca ct (ww x2 (wc xr)) (ww y1 (wc yr)) gD gE fG z w hN hT)
 .have e:n3 x0 x1 x2=x0+18446744073709551616*x1:=by rw [e2];unfold n3;omega
  rw [e] at hN |-
  exact fin (AI ca ct (ww x2 (wc xr)) (wc yr) gD gE fG iC z w hN hT)
 .exact fin (AH ca ct x0 x1 x2 (wc xr) (ww y0 (ww y1 (wc yr))))
 .have f:y0+18446744073709551616*y1=y0:=by rw [f1];omega
  rw [f] at hT |-
  exact fin (AG ca ct (wc xr) (ww y1 (wc yr)) gD gE nJ fG z w hN hT)
 .exact fin (AF ca ct (wc xr) (wc yr) gD gE nJ fG iC z w hN hT)
noncomputable def exT (iK gA:Nat):Nat->Option Sum:=dM (dM (dM Ye 91 (aK aB 100 Qy)) 95 (aK aB 100 (IA iK))) 97 (aK aB 100 (GG gA))
theorem aMc (iK gA:Nat):∀ f S,exT iK gA f=some S->∀ Γ:Env,Γ.aR=aB->aH Tryz.prog Γ f S:=bD (bD (bD pK 91 _ Ip) 95 _ (aNs iK)) 97 _ (aSk gA)
def Bm:List SV:=[.int true .u64 0,.int true .u64 0,.int true .u64 9223372036854775808]
theorem bAp (u0 u1 u2 u3 q0 h0 h1 h2 h3:Int) :
 (yT 100 (bH 100 (Hs Bm (wc [u0,u1,u2,u3,0,0,0,0]) (wc [q0]))) [] (jL 4 8 1 1 1 9223372036854775808 18446744073709551615 (.int true .u64 0) 1) (jK (wc [h0,h1,h2,h3]) (wc [u0,u1,u2,u3,0,0,0,0]) (wc [q0])) 101 [61,63] jM (Bz Bm (wc [u0,u1,u2,u3,0,0,0,0]) (wc [q0]) 4 8 1 1)) =
 sh (0:Int) fun z0=>
 some (.go (.loop xJ),Ez,[(3:Nat)=(3:Nat),(4:Nat)=(4:Nat),(11259375:Int)=h0,z0=h1,z0=h2,z0=h3,[q0]=[q0],[u0,u1,u2,u3,z0,z0,z0,z0]=[u0,u1,u2,u3,z0,z0,z0,z0]]):=by kernel_rfl
theorem bAo (eY eZ:List SV) (u0 u1 u2 u3 v1 v2 v3 q0 h0 h1 h2 h3 g0 g1 g2 g3:Int) :
 fX Bm eY eZ 4 8 1 1 1 9223372036854775808 18446744073709551615 1 0 (.int true .u64 0) (.int false .u64 v3) (wc [u0,u1,u2,u3,0,0,0,0]) (wc [u0,v1,v2,v3,0,0,0,0]) (wc [q0]) (wc [q0]) (wc [h0,h1,h2,h3]) (wc [g0,g1,g2,g3]) [false,true,false,true] =
 sh (0:Int) fun z2=>
 sh (9223372036854775808:Int) fun z1=>
 sh (z2*M.dq z1 z2 u3+z2) fun z3=>
 sh (z2*M.dq z1 z2 u3+M.uh z3) fun z0=>
 sh (u1-M.ul z3-z2) fun z7=>
 sh (u2-M.ul z0-M.ub z7) fun z4=>
 sh (z1*M.dq z1 z2 u3+M.uh z0) fun z5=>
 sh (M.dq z1 z2 u3*z2) fun z6=>
 sh (u3-M.ul z5-M.ub z4) fun z8=>
 sh (M.dq z1 z2 u3) fun z9=>
 some (Cf.at Ex.normal,[],[(M.dq z1 z2 u3==z2)=true,(M.ub z8 != z2)=false,M.U u3,M.U (M.ul z5),M.K (M.ub z4),u3=u3,M.ul z5=M.ul z5,M.ub z4=M.ub z4,M.U u2,M.U (M.ul z0),M.K (M.ub z7),u2=u2,M.ul z0=M.ul z0,M.ub z7=M.ub z7,M.U u1,M.U (M.ul z3),M.K z2,u1=u1,M.ul z3=M.ul z3,z2=z2,(M.uh z5==z2)=true,M.U z1,M.U z9,M.U (M.uh z0),z1=z1,M.dq z1 z2 u3=M.dq z1 z2 u3,M.uh z0=M.uh z0,M.U z2,M.U z9,M.U (M.uh z3),z2=z2,M.dq z1 z2 u3=M.dq z1 z2 u3,M.uh z3=M.uh z3,M.U z2,M.U z9,M.U z2,z2=z2,M.dq z1 z2 u3=M.dq z1 z2 u3,z2=z2,M.gt (M.uh z6) (M.ul z6) (M.dr z1 z2 u3) u2=false,M.U (M.ul z6),M.U u2,M.uh z6=M.uh z6,M.ul z6=M.ul z6,M.dr z1 z2 u3=M.dr z1 z2 u3,u2=u2,M.U z9,M.U z2,M.dq z1 z2 u3=M.dq z1 z2 u3,z2=z2,M.U z2,M.U u3,z2<z1,z2=z2,u3=u3,(3:Nat)=(3:Nat),(4:Nat)=(4:Nat),M.ul z8=v3,M.ul z3=g0,M.ul z0=g1,M.ul z5=g2,M.uh z5=g3,[q0]=[q0],[u0,M.ul z7,M.ul z4,M.ul z8,z2,z2,z2,z2]=[u0,v1,v2,v3,z2,z2,z2,z2]]):=by kernel_rfl
theorem bAn (eY eZ:List SV) (u0 u1 u2 u3 v0 v1 v2 v3 q0 q1 h0 h1 h2 h3 g0 g1 g2 g3:Int) :
 fX Bm eY eZ 4 8 1 1 1 9223372036854775808 18446744073709551615 0 (-1) (.int false .u64 u3) (.int false .u64 v2) (wc [u0,u1,u2,u3,0,0,0,0]) (wc [v0,v1,v2,v3,0,0,0,0]) (wc [q0]) (wc [q1]) (wc [h0,h1,h2,h3]) (wc [g0,g1,g2,g3]) [true,false,false] =
 sh (0:Int) fun z4=>
 sh (9223372036854775808:Int) fun z1=>
 sh (z4*M.dq z1 u3 u2+z4) fun z6=>
 sh (z4*M.dq z1 u3 u2+M.uh z6) fun z0=>
 sh (u0-M.ul z6-z4) fun z2=>
 sh (z1*M.dq z1 u3 u2+M.uh z0) fun z3=>
 sh (u1-M.ul z0-M.ub z2) fun z8=>
 sh (u2-M.ul z3-M.ub z8) fun z5=>
 sh (M.dq z1 u3 u2*z4) fun z7=>
 sh (M.dq z1 u3 u2) fun z9=>
 sh (u3-M.uh z3-M.ub z5) fun iJ=>
 some (Cf.at Ex.normal,[],[(M.ub iJ != z4)=false,M.U u3,M.U (M.uh z3),M.K (M.ub z5),u3=u3,M.uh z3=M.uh z3,M.ub z5=M.ub z5,M.U u2,M.U (M.ul z3),M.K (M.ub z8),u2=u2,M.ul z3=M.ul z3,M.ub z8=M.ub z8,M.U u1,M.U (M.ul z0),M.K (M.ub z2),u1=u1,M.ul z0=M.ul z0,M.ub z2=M.ub z2,M.U u0,M.U (M.ul z6),M.K z4,u0=u0,M.ul z6=M.ul z6,z4=z4,M.U z1,M.U z9,M.U (M.uh z0),z1=z1,M.dq z1 u3 u2=M.dq z1 u3 u2,M.uh z0=M.uh z0,M.U z4,M.U z9,M.U (M.uh z6),z4=z4,M.dq z1 u3 u2=M.dq z1 u3 u2,M.uh z6=M.uh z6,M.U z4,M.U z9,M.U z4,z4=z4,M.dq z1 u3 u2=M.dq z1 u3 u2,z4=z4,M.gt (M.uh z7) (M.ul z7) (M.dr z1 u3 u2) u1=false,M.U (M.ul z7),M.U u1,M.uh z7=M.uh z7,M.ul z7=M.ul z7,M.dr z1 u3 u2=M.dr z1 u3 u2,u1=u1,M.U z9,M.U z4,M.dq z1 u3 u2=M.dq z1 u3 u2,z4=z4,M.U u3,M.U u2,u3<z1,u3=u3,u2=u2,(u3 != z1)=true,(3:Nat)=(3:Nat),(4:Nat)=(4:Nat),M.ul z5=v2,M.ul z6=g0,M.ul z0=g1,M.ul z3=g2,M.uh z3=g3,[M.dq z1 u3 u2]=[q1],[M.ul z2,M.ul z8,M.ul z5,M.ul iJ,z4,z4,z4,z4]=[v0,v1,v2,v3,z4,z4,z4,z4]]):=by kernel_rfl
theorem bAl (eY eZ:List SV) (u0 u1 u2 u3 q0 h0 h1 h2 h3:Int) :
 fX Bm eY eZ 4 8 1 1 1 9223372036854775808 18446744073709551615 (-1) (-1) (.int false .u64 u2) (.int false .u64 u2) (wc [u0,u1,u2,u3,0,0,0,0]) (wc [u0,u1,u2,u3,0,0,0,0]) (wc [q0]) (wc [q0]) (wc [h0,h1,h2,h3]) (wc [h0,h1,h2,h3]) [] =
 sh (0:Int) fun z0=>
 some (Cf.at (Ex.exit 0),[],[(3:Nat)=(3:Nat),(4:Nat)=(4:Nat),u2=u2,h0=h0,h1=h1,h2=h2,h3=h3,[q0]=[q0],[u0,u1,u2,u3,z0,z0,z0,z0]=[u0,u1,u2,u3,z0,z0,z0,z0]]):=by kernel_rfl
theorem bAm (eY eZ:List SV) (u0 u1 u2 u3 q0 h0 h1 h2 h3:Int) :
 Mi Bm eY eZ 4 8 1 1 1 9223372036854775808 18446744073709551615 (.int false .u64 u2) (wc [u0,u1,u2,u3,0,0,0,0]) (wc [q0]) (wc [h0,h1,h2,h3]) =
 sh (0:Int) fun z0=>
 some {val:=SV.eL [],wr:=[(61,SB.own [SV.int false IntKind.u64 q0] 196),(63,SB.own [SV.int false IntKind.u64 u0,SV.int false IntKind.u64 u1,SV.int false IntKind.u64 u2,SV.int false IntKind.u64 u3,SV.int false IntKind.u64 z0,SV.int false IntKind.u64 z0,SV.int false IntKind.u64 z0,SV.int false IntKind.u64 z0] 196)]}:=by kernel_rfl
open M in
theorem aMn (eY eZ:List SV) (q0 h0 h1 h2 h3:Int) {u0 u1 u2 u3:Int} (a1:U u1) (a2:U u2) (a3:U u3) (hd:u3<9223372036854775808) :
 ∃ ps,fX Bm eY eZ 4 8 1 1 1 9223372036854775808 18446744073709551615 1 0 (.int true .u64 0) (.int false .u64 u3) (wc [u0,u1,u2,u3,0,0,0,0]) (wc [u0,u1,u2,u3,0,0,0,0]) (wc [q0]) (wc [q0]) (wc [h0,h1,h2,h3]) (wc [0,0,0,0]) [false,true,false,true]=some (.at .normal,[],ps)/\∀ q∈ps,q:=by
 have z2:=a1.1;have z3:=a1.2;have z4:=a2.1;have z5:=a2.2;have z6:=a3.1;have z7:=a3.2
 have e0:U 9223372036854775808:=⟨by decide,by decide⟩
 have hQ:dq 9223372036854775808 0 u3=0:=by unfold dq;omega
 have hR:dr 9223372036854775808 0 u3=u3:=by unfold dr;omega
 have hg:gt 0 0 u3 u2=false:=by unfold gt;exact decide_eq_false (by omega)
 refine ⟨_,bAo eY eZ u0 u1 u2 u3 _ _ _ q0 h0 h1 h2 h3 _ _ _ _,aA ?_⟩
 simp only [hQ,hR,bX,Int.mul_zero,Int.zero_mul,Int.add_zero,Int.sub_zero,ul0,Km,sN a1,sN a2,sN a3,uJ a1,uJ a2,uJ a3,hg,U0,K0,e0,a1,a2,a3,and_true,true_and]
 and_intros <;> first | rfl | decide
open M in
theorem aMm (eY eZ:List SV) (q0:Int) {u0 u1 u2 u3:Int} (a0:U u0) (a1:U u1) (a2:U u2) (h3:0<=u3) (hd:u3<4) :
 ∃ ps,fX Bm eY eZ 4 8 1 1 1 9223372036854775808 18446744073709551615 0 (-1) (.int false .u64 u3) (.int false .u64 (u2%9223372036854775808)) (wc [u0,u1,u2,u3,0,0,0,0]) (wc [u0,u1,u2%9223372036854775808,0,0,0,0,0]) (wc [q0]) (wc [dq 9223372036854775808 u3 u2]) (wc [0,0,0,0]) (wc [0,0,u2/9223372036854775808*9223372036854775808,u3]) [true,false,false]=some (.at .normal,[],ps)/\∀ q∈ps,q:=by
 have z0:=a0.1;have z1:=a0.2;have z2:=a1.1;have z3:=a1.2;have z4:=a2.1;have z5:=a2.2
 have a3:U u3:=by unfold U;omega
 have e0:U 9223372036854775808:=⟨by decide,by decide⟩
 obtain ⟨Q,hQ⟩:∃ Q,Q=dq 9223372036854775808 u3 u2:=⟨_,rfl⟩
 have hQ':Q=2*u3+u2/9223372036854775808:=by rw [hQ];unfold dq;omega
 have hR:dr 9223372036854775808 u3 u2=u2%9223372036854775808:=by unfold dr;omega
 have aQ:U Q:=by unfold U;omega
 have hl:ul (9223372036854775808*Q)=u2/9223372036854775808*9223372036854775808:=by unfold ul;omega
 have hh:uh (9223372036854775808*Q)=u3:=by unfold uh;omega
 have aP:U (u2/9223372036854775808*9223372036854775808):=by unfold U;omega
 have hs:u2-u2/9223372036854775808*9223372036854775808=u2%9223372036854775808:=by omega
 have aS:U (u2%9223372036854775808):=by unfold U;omega
 have hg:gt 0 0 (u2%9223372036854775808) u1=false:=by unfold gt;exact decide_eq_false (by omega)
 have h33:u3-u3=0:=by omega
 have e9:(u3 != 9223372036854775808)=true:=bne_iff_ne.2 (by omega)
 have cI:u3<9223372036854775808:=by omega
 refine ⟨_,bAn eY eZ u0 u1 u2 u3 _ _ _ _ q0 _ 0 0 0 0 _ _ _ _,aA ?_⟩
 rw [<- hQ]
 simp only [hR,bX,Int.mul_zero,Int.zero_mul,Int.zero_add,Int.add_zero,Int.sub_zero,ul0,Km,hl,hh,hs,h33,sN a0,sN a1,sN aS,sN U0,uJ a0,uJ a1,uJ aS,hg,U0,K0,e0,a0,a1,a2,a3,aQ,aP,aS,e9,cI,and_true,true_and]
 first | done | (and_intros <;> first | rfl | decide)
open M in
set_option maxHeartbeats 2000000 in
theorem aCs {u0 u1 u2 u3:Int} (y0:Int) (a0:U u0) (a1:U u1) (a2:U u2) (h3:0<=u3) (hd:u3<4) :
 aF Tryz.prog Γv 259 (Bk 4 8 1 1) (Hs Bm (wc [u0,u1,u2,u3,0,0,0,0]) (wc [y0])) 100 100 { val:=.eL [],wr:=[(61,.own (wc [dq 9223372036854775808 u3 u2]) 196),(63,.own (wc [u0,u1,u2%9223372036854775808,0,0,0,0,0]) 196)] }:=by
 have a3:U u3:=by unfold U;omega
 refine gR lC lD Tryz.func259 (by kernel_rfl) rfl (Nat.le_of_ble_eq_true (by kernel_rfl)) rfl [] ?_
 intro w0' Mx V0 Q hb H
 have aT:=lC
 have aX:=lD
 refine G.yT aT aX mix hb [] (bAp u0 u1 u2 u3 y0 11259375 0 0 0) (aA (by simp only [sh,bX,and_true])) ?_
 refine G.loop (fun r s=>(r=2/\s=cB (jL 4 8 1 1 1 9223372036854775808 18446744073709551615 (.int true .u64 0) 1) (jK (wc [11259375,0,0,0]) (wc [u0,u1,u2,u3,0,0,0,0]) (wc [y0])) 101 [61,63] jM)
  \/ (r=1/\s=cB (jL 4 8 1 1 1 9223372036854775808 18446744073709551615 (.int false .u64 u3) 0) (jK (wc [0,0,0,0]) (wc [u0,u1,u2,u3,0,0,0,0]) (wc [y0])) 101 [61,63] jM)
  \/ (r=0/\s=cB (jL 4 8 1 1 1 9223372036854775808 18446744073709551615 (.int false .u64 (u2%9223372036854775808)) (-1)) (jK (wc [0,0,u2/9223372036854775808*9223372036854775808,u3]) (wc [u0,u1,u2%9223372036854775808,0,0,0,0,0]) (wc [dq 9223372036854775808 u3 u2])) 101 [61,63] jM)) (r0:=2) (.inl ⟨rfl,rfl⟩) ?_
 rintro r s (⟨rfl,rfl⟩ | ⟨rfl,rfl⟩ | ⟨rfl,rfl⟩)
 .obtain ⟨ps,e,hp⟩:=aMn (wc [u0,u1,u2,u3,0,0,0,0]) (wc [y0]) y0 11259375 0 0 0 (u0:=u0) a1 a2 a3 (by omega)
  exact G.lF aT aX mix hb _ e hp 1 (by omega) (.inr (.inl ⟨rfl,rfl⟩))
 .obtain ⟨ps,e,hp⟩:=aMm (wc [u0,u1,u2,u3,0,0,0,0]) (wc [y0]) y0 a0 a1 a2 h3 hd
  exact G.lF aT aX mix hb _ e hp 0 (by omega) (.inr (.inr ⟨rfl,rfl⟩))
 .exact G.yT aT aX mix hb [] (bAl _ _ u0 u1 _ _ _ _ _ _ _) (aA (by simp only [sh,bX,and_true])) (G.leave (fun h=>by cases h)
   (G.fin aT aX mix [] H (bAm _ _ u0 u1 _ _ _ _ _ _ _) (by simp) rfl rfl rfl))
open M in
def HQ (vs:List SV) (T:aZ):Option Canon:=match vs with
 | [.aG lq true 0 1 1,.ptr ls true 0,.aG lu true 0 4 8,.cP lv 0 3 0]=>match T lq,T ls,T lu,T lv with
   | some (.own qs 196),some (.own [.raw (.pointer none)] 306),some (.own us 196),some (.row 1 _ 196)=>match cX .u64 qs,cX .u64 us with
     | some [y0],some [u0,u1,u2,u3,_,_,_,_]=>some { eR:=Bk 4 8 1 1,T0:=[(61,.own (wc [y0]) 196),(62,.own [.raw (.pointer none)] 306),(63,.own (wc [u0,u1,u2,u3,0,0,0,0]) 196),(64,.row 1 Bm 196)],vl:=[(61,.lab lq 0),(62,.lab ls 0),(63,.lab lu 0),(64,.lab lv 0)],e0:={ val:=.eL [],wr:=[(61,.own (wc [dq 9223372036854775808 u3 u2]) 196),(63,.own (wc [u0,u1,u2%9223372036854775808,0,0,0,0,0]) 196),(62,.own [.raw (.pointer none)] 306),(64,.row 1 Bm 196)] },conds:=[U u0,U u1,U u2,0<=u3,u3<4] }
     | _,_=>none
   | _,_,_,_=>none
 | _=>none
theorem aUe (Γ:Env) (hg:Γ.aR=aB):aH Tryz.prog Γ 259 (aK aB 100 HQ):=by
 refine aW hg fun vs T c hd hc=>?_
 unfold HQ at hd
 split at hd
 case h_2=>cases hd
 split at hd
 case h_2=>cases hd
 split at hd
 case h_2=>cases hd
 cases hd
 exact (((aCs _ (hc _ (by simp)) (hc _ (by simp)) (hc _ (by simp)) (hc _ (by simp)) (hc _ (by simp))).bE 62 _ rfl (by decide)).bE 64 _ rfl (by decide)).words (by rw [hg];rfl) (fun _=>rfl) (fun _ _ h=>h) (fun _=>rfl) rfl rfl
noncomputable def UW (h:List Bool):Nat->Option Sum:=Fe Ye 192 h
theorem aCe (h:List Bool):∀ f S,UW h f=some S->∀ Γ:Env,Γ.aR=aB->aH Tryz.prog Γ f S:=nS pK 192 h
def mQ:List SV:=[.ptr 61 true 0,.aG 62 true 0 16 16]
def nL:List SV:=List.replicate 16 (.int true .u8 0)
def SJ (X:SV) (xs:List SV) (out:List SV):List (Nat × SB):=[(61,.fP [.bool true false,X]),(62,.own out 59),(63,.fP xs)]
noncomputable def Va (h:List Bool) (X:SV) (xs:List SV):Option bJ:=aJ (env (UW h) 22) Tryz.f149 true [] 400 mQ (fun l=>look l (SJ X xs nL)) 100 100
namespace M
def sr:Nat->Int->Int
 | 0,a=>a
 | j+1,a=>bZ .u64 (sr j a) 8
def eT (j:Nat) (a:Int):Int:=IntKind.u8.wrap (sr j a)
end M
namespace M
def bts (a0 a1:Int):List Int:=[eT 7 a1,eT 6 a1,eT 5 a1,eT 4 a1,eT 3 a1,eT 2 a1,eT 1 a1,eT 0 a1,eT 7 a0,eT 6 a0,eT 5 a0,eT 4 a0,eT 3 a0,eT 2 a0,eT 1 a0,eT 0 a0]
def fbZ (l:List Int) (k:Nat):List Prop:=(List.range k).reverse.map fun j=>(l.getD j 0==0)=true
def fbO (l:List Int) (k:Nat):List Prop:=((l.getD k 0==0)=false)::fbZ l k
def fbP (k n:Nat):List Bool:=match Nat.blt k n with
 | true=>List.replicate k true++[false]
 | false=>List.replicate n true
def fbQ (l:List Int) (k n:Nat):List Prop:=match Nat.blt k n with
 | true=>fbO l k
 | false=>fbZ l n
theorem JV (l:List Int) (n:Nat):∃ k,k<=n/\∀ q∈fbQ l k n,q:=by
 have zer:∀ m,(∀ j,j<m->(l.getD j 0==0)=true)->∀ q∈fbZ l m,q:=fun m h q hq=>by
  obtain ⟨j,hj,rfl⟩:=List.mem_map.1 hq
  exact h j (by simpa using hj)
 have key:∀ m,m<=n->(∃ k,k<=n/\∀ q∈fbQ l k n,q)\/∀ j,j<m->(l.getD j 0==0)=true:=by
  intro m
  induction m with
  | zero=>exact fun _=>.inr fun j h=>by omega
  | succ m ih=>
    intro hm
    rcases ih (by omega) with h | h
    .exact .inl h
    .cases hb:(l.getD m 0==0) with
     | false=>
       refine .inl ⟨m,by omega,?_⟩
       unfold fbQ
       rw [show Nat.blt m n=true by rw [Nat.blt_eq];omega]
       intro q hq
       rcases List.mem_cons.1 hq with rfl | hq
       .exact hb
       .exact zer m h q hq
     | true=>exact .inr fun j hj=>if e:j=m then by rw [e];exact hb else h j (by omega)
 rcases key n (Nat.le_refl _) with h | h
 .exact h
 .refine ⟨n,Nat.le_refl _,?_⟩
  unfold fbQ
  rw [show Nat.blt n n=false by cases hb:Nat.blt n n with
   | false=>rfl
   | true=>rw [Nat.blt_eq] at hb;omega]
  exact zer n h
end M
theorem aBq (c:Nat) (xs:List SV) :
 Va [] (.aG 63 true 0 0 c) xs =
 some {val:=.aG 62 true 0 16 16,wr:=[(62,.own nL 59)]}:=by kernel_rfl
theorem bAh (xs:List SV) :
 Va [] (.raw (.slice none 0 0)) xs =
 some {val:=.aG 62 true 0 16 16,wr:=[(62,.own nL 59)]}:=by kernel_rfl
def fbW (n:Nat) (l:List Int):List SV:=nL.take (16-n)++bc (l.drop (16-n))
theorem bAj (c:Nat) (a0:Int) (xs:List SV) (k:Nat) (hk:k<=8):Va (M.fbP k 8) (.aG 63 true 0 1 c) (ww a0 xs)=some { bM:=M.fbQ ((M.bts a0 0).drop 8) k 8,val:=.aG 62 true 0 16 16,wr:=[(62,.own (fbW 8 (M.bts a0 0)) 59)] }:=by
 rcases (by omega:k=0\/k=1\/k=2\/k=3\/k=4\/k=5\/k=6\/k=7\/k=8) with rfl | rfl | rfl | rfl | rfl | rfl | rfl | rfl | rfl <;> kernel_rfl
theorem bAi (c:Nat) (a0 a1:Int) (xs:List SV) (k:Nat) (hk:k<=16):Va (M.fbP k 16) (.aG 63 true 0 2 c) (ww a0 (ww a1 xs))=some { bM:=M.fbQ (M.bts a0 a1) k 16,val:=.aG 62 true 0 16 16,wr:=[(62,.own (fbW 16 (M.bts a0 a1)) 59)] }:=by
 rcases (by omega:k=0\/k=1\/k=2\/k=3\/k=4\/k=5\/k=6\/k=7\/k=8\/k=9\/k=10\/k=11\/k=12\/k=13\/k=14\/k=15\/k=16) with rfl | rfl | rfl | rfl | rfl | rfl | rfl | rfl | rfl | rfl | rfl | rfl | rfl | rfl | rfl | rfl | rfl <;> kernel_rfl
namespace M
def nb (n:Int) (j:Nat):Int:=n/256^j%256
theorem aDr (a:Int):∀ j:Nat,sr j a=a/256^j
 | 0=>by simp [sr]
 | j+1=>by
   show Int.fdiv (sr j a) 256=_
   rw [Int.fdiv_eq_ediv_of_nonneg _ (by decide),aDr a j,Int.pow_succ]
   exact Int.ediv_ediv_of_nonneg (Int.le_of_lt (Int.pow_pos (by decide)))
theorem aFb (j:Nat) (a:Int):eT j a=a/256^j%256:=by
 unfold eT
 rw [IntKind.wrap_u8,aDr]
theorem aSh (a0 a1:Int) (j:Nat) (hj:j<8):nb (a0+18446744073709551616*a1) j=eT j a0:=by
 rw [aFb]
 unfold nb
 rcases (by omega:j=0\/j=1\/j=2\/j=3\/j=4\/j=5\/j=6\/j=7) with rfl | rfl | rfl | rfl | rfl | rfl | rfl | rfl <;> omega
theorem aSi {a0:Int} (h0:U a0) (a1:Int) (j:Nat) (hj:j<8):nb (a0+18446744073709551616*a1) (j+8)=eT j a1:=by
 have:=h0.1
 have:=h0.2
 rw [aFb]
 unfold nb
 rcases (by omega:j=0\/j=1\/j=2\/j=3\/j=4\/j=5\/j=6\/j=7) with rfl | rfl | rfl | rfl | rfl | rfl | rfl | rfl <;> omega
def nbs (n:Int):List Int:=[nb n 15,nb n 14,nb n 13,nb n 12,nb n 11,nb n 10,nb n 9,nb n 8,nb n 7,nb n 6,nb n 5,nb n 4,nb n 3,nb n 2,nb n 1,nb n 0]
theorem JI {a0:Int} (h0:U a0) (a1:Int):nbs (a0+18446744073709551616*a1)=bts a0 a1:=by
 have h:=aSi h0 a1
 have l:=aSh a0 a1
 simp only [nbs,bts,List.cons.injEq,and_true]
 exact ⟨h 7 (by decide),h 6 (by decide),h 5 (by decide),h 4 (by decide),h 3 (by decide),h 2 (by decide),h 1 (by decide),h 0 (by decide),l 7 (by decide),l 6 (by decide),l 5 (by decide),l 4 (by decide),l 3 (by decide),l 2 (by decide),l 1 (by decide),l 0 (by decide)⟩
end M
def fbE (n:Int):bJ:={ val:=.aG 62 true 0 16 16,wr:=[(62,.own (bc (M.nbs n)) 59)] }
theorem UR (h:List Bool):aH Tryz.prog (env (UW h) 22) 149 (aJ (env (UW h) 22) Tryz.f149 true [] 400):=aM (bQ _ 22) (bW _ (aCe h) 22) mix Tryz.func149 (by kernel_rfl) true [] 400
theorem aOp:M.nbs 0=List.replicate 16 0:=by decide
theorem MR (xs:List SV):aF Tryz.prog Γv 149 mQ (fun l=>look l (SJ (.raw (.slice none 0 0)) xs nL)) 100 100 (fbE 0):=
 ((UR []).call (bAh xs) (by simp)).re rfl (fun _=>rfl) trivial ⟨rfl,⟨rfl,fun _=>by rw [aOp];rfl⟩,trivial⟩
theorem MV (c:Nat) (xs:List SV):aF Tryz.prog Γv 149 mQ (fun l=>look l (SJ (.aG 63 true 0 0 c) xs nL)) 100 100 (fbE 0):=
 ((UR []).call (aBq c xs) (by simp)).re rfl (fun _=>rfl) trivial ⟨rfl,⟨rfl,fun _=>by rw [aOp];rfl⟩,trivial⟩
open M in
theorem MU (c:Nat) {a0:Int} (h0:U a0) (xs:List SV):aF Tryz.prog Γv 149 mQ (fun l=>look l (SJ (.aG 63 true 0 1 c) (ww a0 xs) nL)) 100 100 (fbE a0):=by
 obtain ⟨k,hk,ho⟩:=JV ((bts a0 0).drop 8) 8
 have e:=JI h0 0
 rw [Int.mul_zero,Int.add_zero] at e
 exact ((UR _).call (bAj c a0 xs k hk) ho).re rfl (fun _=>rfl) trivial ⟨rfl,⟨rfl,fun V=>by rw [e];rfl⟩,trivial⟩
open M in
theorem MT (c:Nat) {a0 a1:Int} (h0:U a0) (_:U a1) (xs:List SV):aF Tryz.prog Γv 149 mQ (fun l=>look l (SJ (.aG 63 true 0 2 c) (ww a0 (ww a1 xs)) nL)) 100 100 (fbE (a0+18446744073709551616*a1)):=by
 obtain ⟨k,hk,ho⟩:=JV (bts a0 a1) 16
 have e:=JI h0 a1
 exact ((UR _).call (bAi c a0 a1 xs k hk) ho).re rfl (fun _=>rfl) trivial ⟨rfl,⟨rfl,fun V=>by rw [e];rfl⟩,trivial⟩
end Go.Proofs.YticicdfijghigaaGreatDoor.Sx
