/- A part of the proof of CipherOfNothing: Ref4 to Ref4l. -/
import Derived.Test.YtaibhjpgbckbkaaGreatDoorPB
import Derived.KernelRfl
open Go
set_option maxRecDepth 100000
namespace Go.Proofs.YtaibhjpgbckbkaaGreatDoor.Sx
theorem Yu (n:Nat):bX Tryz.prog (env fF n):=bJ fF (fun f S h Γ _=>lA f S h Γ) n
noncomputable def Γ4:Env:=env fF 3
theorem wV:bX Tryz.prog Γ4:=Yu 3
theorem wT:cG Tryz.prog Γ4:=bH fF 3
def CG (n:Nat) (i:Int):List SV:=[.dX 61 n,.int false .i64 i]
def gF (xs:List Int):bA:=fun l=>look l [(61,.dK .i64 xs)]
theorem bAm (xs:List Int) (n:Nat) (i:Int) :
 rZ Γ4 (gF xs) 100 100 Tryz.f201 (cA Γ4 (aC 100 (gF xs)) 100 Tryz.f201.ntmps [] 0 100 (.go (codeOf Tryz.f201)) [] ((gU (CG n i) 100).hint [true])) =
 some {bV:=[i.toNat<xs.length,0<=i/\i<(↑n:Int),decide (i<(↑n:Int))=true],val:=SV.int false IntKind.i64 (xs.getD i.toNat 0)}:=by kernel_rfl
theorem bAl (xs:List Int) (n:Nat) (i:Int) :
 rZ Γ4 (gF xs) 100 100 Tryz.f201 (cA Γ4 (aC 100 (gF xs)) 100 Tryz.f201.ntmps [] 0 100 (.go (codeOf Tryz.f201)) [] ((gU (CG n i) 100).hint [false])) =
 some {bV:=[decide (i<(↑n:Int))=false],val:=SV.int true IntKind.i64 0}:=by kernel_rfl
def wL (n:Nat):List SV:=[.dX 61 n]
noncomputable def aBv:Option jA:=cA Γ4 (aC 100 (gF [])) 100 Tryz.f199.ntmps [4] 0 100 (.go (codeOf Tryz.f199)) [] (gU (wL 0) 100)
noncomputable def Qm:Code:=match aBv with
 | some ⟨.go (.loop L),_,_⟩=>L
 | _=>.skip
noncomputable def aDg:List Fr:=match aBv with
 | some ⟨_,K,_⟩=>K
 | _=>[]
def Kw (n:Nat) (c i:Int):List (Nat × SV):=[(0,.dX 61 n),(3,.buf 100),(4,.int false .i64 c),(5,.int false .i64 i)]
def sS (out:List Int):List (Nat × SB):=[(100,.cD .i64 out 3)]
noncomputable def HJ:Option jA:=cA Γ4 (aC 100 (gF [])) 100 Tryz.f199.ntmps [4,9] 0 100 (.at (.exit 0)) aDg (aN (Kw 0 0 0) (sS []) 101 [] [])
noncomputable def Jk:Code:=match HJ with
 | some ⟨.go (.loop L),_,_⟩=>L
 | _=>.skip
noncomputable def aBw:List Fr:=match HJ with
 | some ⟨_,K,_⟩=>K
 | _=>[]
def Bo (c:Int):List (Nat × SV):=[(3,.buf 100),(4,.int false .i64 c)]
theorem bBt (xs out:List Int) (n:Nat) (c i:Int) :
 (gD 100 (aC 100 (gF xs)) [(3,.i64,3)] (Kw n c i) (sS out) 101 [] [] (cA Γ4 (aC 100 (gF xs)) 100 Tryz.f199.ntmps [4] 0 100 (.go (codeOf Tryz.f199)) [] ((gU (wL n) 100).hint []))) =
 some (.go (.loop Qm),aDg,[n=n,0=c,0=i,[]=out]):=by kernel_rfl
theorem bBs (xs out jB:List Int) (n:Nat) (c c' i i':Int) :
 gD 100 (aC 100 (gF xs)) [] (Kw n c' i') (sS jB) 101 [] [] (cA Γ4 (aC 100 (gF xs)) 100 Tryz.f199.ntmps [4] 0 100 (.go Qm) [] ((aN (Kw n c i) (sS out) 101 [] []).hint [true])) =
 sh (IntKind.i64.wrap (c+xs.getD i.toNat 0)) fun z0=>
 some (Cf.at Ex.normal,[],[(out.length+[z0.tmod 256].length)*8<=140737488355328,i.toNat<xs.length,0<=i/\i<(↑n:Int),decide (i<(↑n:Int))=true,n=n,IntKind.i64.wrap (z0.tdiv 256)=c',IntKind.i64.wrap (i+1)=i',out++[z0.tmod 256]=jB]):=by kernel_rfl
theorem bBr (xs out:List Int) (n:Nat) (c i:Int) :
 gD 100 (aC 100 (gF xs)) [] (Kw n c i) (sS out) 101 [] [] (cA Γ4 (aC 100 (gF xs)) 100 Tryz.f199.ntmps [4] 0 100 (.go Qm) [] ((aN (Kw n c i) (sS out) 101 [] []).hint [false])) =
 some (Cf.at (Ex.exit 0),[],[decide (i<(↑n:Int))=false,n=n,c=c,i=i,out=out]):=by kernel_rfl
theorem bBq (xs out:List Int) (n:Nat) (c i:Int) :
 (gD 100 (aC 100 (gF xs)) [] (Bo c) (sS out) 101 [] [] (cA Γ4 (aC 100 (gF xs)) 100 Tryz.f199.ntmps [4,9] 0 100 (.at (.exit 0)) aDg ((aN (Kw n c i) (sS out) 101 [] []).hint []))) =
 some (.go (.loop Jk),aBw,[c=c,out=out]):=by kernel_rfl
theorem bBp (xs out jB:List Int) (c c':Int) :
 gD 100 (aC 100 (gF xs)) [] (Bo c') (sS jB) 101 [] [] (cA Γ4 (aC 100 (gF xs)) 100 Tryz.f199.ntmps [4,9] 0 100 (.go Jk) [] ((aN (Bo c) (sS out) 101 [] []).hint [true])) =
 some (Cf.at Ex.normal,[],[(out.length+[c.tmod 256].length)*8<=140737488355328,decide (c>0)=true,IntKind.i64.wrap (c.tdiv 256)=c',out++[c.tmod 256]=jB]):=by kernel_rfl
theorem bBo (xs out:List Int) (c:Int) :
 gD 100 (aC 100 (gF xs)) [] (Bo c) (sS out) 101 [] [] (cA Γ4 (aC 100 (gF xs)) 100 Tryz.f199.ntmps [4,9] 0 100 (.go Jk) [] ((aN (Bo c) (sS out) 101 [] []).hint [false])) =
 some (Cf.at (Ex.exit 2),[],[decide (c>0)=false,c=c,out=out]):=by kernel_rfl
theorem bBn (xs out:List Int) (c:Int) :
 rZ Γ4 (gF xs) 100 100 Tryz.f199 (cA Γ4 (aC 100 (gF xs)) 100 Tryz.f199.ntmps [4,9] 0 100 (.at (.exit 2)) aBw ((aN (Bo c) (sS out) 101 [] []).hint [])) =
 some {val:=SV.buf 100,new:=[SB.cD IntKind.i64 out 3]}:=by kernel_rfl
def Ds (m:Int) (v:List Int):Prop:=∀ x∈v,0<=x/\x<=m
theorem Ds.get {m:Int} {v:List Int} (h:Ds m v) (hm:0<=m) (i:Nat):0<=v.getD i 0/\v.getD i 0<=m:=by
 rw [List.getD_eq_getElem?_getD]
 cases hv:v[i]? with
 | none=>exact ⟨Int.le_refl _,hm⟩
 | some x=>exact h x (List.mem_of_getElem? hv)
namespace M
def cy (xs:List Int):Nat->Int
 | 0=>0
 | i+1=>(cy xs i+xs.getD i 0)/256
def outs (xs:List Int) (i:Nat):List Int:=(List.range i).map fun j=>(cy xs j+xs.getD j 0)%256
def dg (c:Nat):List Int:=if h:c=0 then [] else ((c%256:Nat):Int)::dg (c/256)
 termination_by c
 decreasing_by omega
def carried (xs:List Int):List Int:=outs xs xs.length++dg (cy xs xs.length).toNat
def val:List Int->Int
 | []=>0
 | x::r=>x+256*val r
theorem Te {xs:List Int} {m:Int} (hm:0<=m) (h:Ds m xs):∀ i,0<=cy xs i/\cy xs i<=m
 | 0=>⟨Int.le_refl _,hm⟩
 | i+1=>by
   have:=Te hm h i
   have:=h.get hm i
   unfold cy
   omega
theorem nU (xs:List Int) (i:Nat):(outs xs i).length=i:=by simp [outs]
theorem Xm (xs:List Int) (i:Nat):outs xs i++[(cy xs i+xs.getD i 0)%256]=outs xs (i+1):=by simp [outs,List.range_succ]
theorem uI:dg 0=[]:=by rw [dg];rfl
theorem Il {c:Nat} (h:c≠0):dg c=((c%256:Nat):Int)::dg (c/256):=by rw [dg,dif_neg h]
theorem xQ:∀ (n c:Nat),c<256^n->(dg c).length<=n
 | 0,c,h=>by
   have:c=0:=by simpa using h
   subst this
   rw [uI];exact Nat.le_refl _
 | n+1,c,h=>by
   by_cases e:c=0
   .subst e;rw [uI];exact Nat.zero_le _
   .rw [Il e,List.length_cons]
    have:c/256<256^n:=by rw [Nat.div_lt_iff_lt_mul (by omega)];rwa [Nat.pow_succ] at h
    have:=xQ n (c/256) this
    omega
end M
theorem YJ (xs:List Int) (i:Int) (hi:0<=i):aD Tryz.prog Γ4 201 (CG xs.length i) (gF xs) 100 100 { val:=.int false .i64 (xs.getD i.toNat 0) }:=by
 by_cases cK:i<xs.length
 .refine bU wT wV Tryz.func201 (by kernel_rfl) rfl (Nat.le_of_ble_eq_true (by kernel_rfl)) rfl [] ?_
  intro w0 M V0 Q hb H
  refine G.fin wT wV mix [true] H (bAm xs xs.length i) (aA ?_) rfl rfl rfl
  simp only [aO,and_true]
  exact ⟨by omega,⟨hi,cK⟩,by simpa using cK⟩
 .have h0:xs.getD i.toNat 0=0:=by rw [List.getD_eq_getElem?_getD,List.getElem?_eq_none (by omega)];rfl
  rw [h0]
  have:aD Tryz.prog Γ4 201 (CG xs.length i) (gF xs) 100 100 { val:=.int true .i64 0 }:=by
   refine bU wT wV Tryz.func201 (by kernel_rfl) rfl (Nat.le_of_ble_eq_true (by kernel_rfl)) rfl [] ?_
   intro w0 M V0 Q hb H
   refine G.fin wT wV mix [false] H (bAl xs xs.length i) (aA ?_) rfl rfl rfl
   simp only [aO,and_true]
   simpa using cK
  exact this.words rfl (fun _=>rfl) (fun _ _ h=>h) (fun _=>rfl) rfl rfl
def aBt (vs:List SV) (T:bA):Option Canon:=match vs with
 | [d,.int _ .i64 i]=>match fG T .i64 d with
   | some (ob,xs)=>some { eR:=CG xs.length i,T0:=[(61,.dK .i64 xs)],vl:=[(61,.arg 0)],e0:={ val:=.int false .i64 (xs.getD i.toNat 0) },conds:=(0<=i)::ob }
   | none=>none
 | _=>none
def dgS:Sum:=aK aB 100 aBt
theorem aSx (Γ:Env) (hg:Γ.aU=aB):aH Tryz.prog Γ 201 dgS:=by
 refine aT hg fun vs T c hd hc=>?_
 unfold aBt at hd
 split at hd
 case h_2=>cases hd
 split at hd
 case h_2=>cases hd
 cases hd
 exact (YJ _ _ (hc _ (by simp))).words (by rw [hg];rfl) (fun _=>rfl) (fun _ _ h=>h) (fun _=>rfl) rfl rfl
theorem YL (xs:List Int) (hl:xs.length<=100) (hd:Ds 1099511627776 xs) :
 aD Tryz.prog Γ4 199 (wL xs.length) (gF xs) 100 100 { val:=.buf 100,new:=[.cD .i64 (M.carried xs) 3] }:=by
 refine bU wT wV Tryz.func199 (by kernel_rfl) rfl (Nat.le_of_ble_eq_true (by kernel_rfl)) rfl [] ?_
 intro w0 Mx V0 Q hb H
 have aM:=wT
 have aE:=wV
 refine G.gD aM aE mix hb [] (bBt xs [] xs.length 0 0) (aA (by simp [aO])) ?_
 refine G.loop (fun r s=>∃ i:Nat,i<=xs.length/\r=xs.length-i/\s=aN (Kw xs.length (M.cy xs i) i) (sS (M.outs xs i)) 101 [] []) (r0:=xs.length) ⟨0,Nat.zero_le _,rfl,rfl⟩ ?_
 rintro r s ⟨i,hi,rfl,rfl⟩
 have tO:IntKind.i64.wrap ((i:Int)+1)=((i+1:Nat):Int):=by rw [IntWalk.i64_in _ (by omega)];omega
 have b1:=M.Te (by omega) hd i
 have b2:=hd.get (by omega) i
 by_cases cK:i<xs.length
 .refine G.eK aM aE mix hb [true] (bBs xs (M.outs xs i) (M.outs xs (i+1)) xs.length (M.cy xs i) (M.cy xs (i+1)) i ((i+1:Nat):Int)) (aA ?_) (xs.length-(i+1)) (by omega) ⟨i+1,cK,rfl,rfl⟩
  have e1:IntKind.i64.wrap (M.cy xs i+xs.getD i 0)=M.cy xs i+xs.getD i 0:=IntWalk.i64_in _ (by omega)
  have e2:(M.cy xs i+xs.getD i 0).tmod 256=(M.cy xs i+xs.getD i 0)%256:=Int.tmod_eq_emod_of_nonneg (by omega)
  have e3:IntKind.i64.wrap ((M.cy xs i+xs.getD i 0).tdiv 256)=M.cy xs (i+1):=by rw [Int.tdiv_eq_ediv_of_nonneg (by omega),IntWalk.i64_in _ (by omega)];rfl
  simp only [aO,tO,Int.toNat_natCast,e1,e2,e3,M.nU,M.Xm,List.length_cons,List.length_nil,and_true]
  exact ⟨by omega,by omega,by omega,by simpa using cK⟩
 .have hil:i=xs.length:=by omega
  subst hil
  refine G.gD aM aE mix hb [false] (bBr xs _ _ _ _) (aA (by simp [aO])) (G.leave (by simp) ?_)
  refine G.gD aM aE mix hb [] (bBq xs _ _ _ _) (aA (by simp [aO])) ?_
  refine G.loop (fun c s=>∃ out:List Int,c<=1099511627776/\out++M.dg c=M.carried xs/\s=aN (Bo c) (sS out) 101 [] []) (r0:=(M.cy xs xs.length).toNat)
   ⟨_,by omega,rfl,by rw [Int.toNat_of_nonneg b1.1]⟩ ?_
  rintro c s ⟨out,hc,ho,rfl⟩
  have hlen:(M.carried xs).length<=200:=by
   have:=M.xQ 6 (M.cy xs xs.length).toNat (by omega)
   unfold M.carried
   rw [List.length_append,M.nU]
   omega
  have ZE:out.length<=200:=by
   have:=congrArg List.length ho
   rw [List.length_append] at this
   omega
  by_cases wA:c=0
  .subst wA
   rw [M.uI,List.append_nil] at ho
   subst ho
   refine G.gD aM aE mix hb [false] (bBo xs _ _) (aA (by simp [aO])) (G.leave (by simp) ?_)
   exact G.fin aM aE mix [] H (bBn xs _ _) (by simp) rfl rfl rfl
  .refine G.eK aM aE mix hb [true] (bBp xs out (out++[((c%256:Nat):Int)]) c ((c/256:Nat):Int)) (aA ?_) (c/256) (by omega) ⟨_,by omega,by rw [<- ho,M.Il wA,List.append_assoc];rfl,rfl⟩
   have e2:(c:Int).tmod 256=((c%256:Nat):Int):=by rw [Int.tmod_eq_emod_of_nonneg (by omega)];omega
   have e3:IntKind.i64.wrap ((c:Int).tdiv 256)=((c/256:Nat):Int):=by rw [Int.tdiv_eq_ediv_of_nonneg (by omega),IntWalk.i64_in _ (by omega)];omega
   simp only [aO,e2,e3,List.length_cons,List.length_nil,and_true]
   exact ⟨by omega,by simp;omega⟩
def aBx (vs:List SV) (T:bA):Option Canon:=match vs with
 | [d]=>match fG T .i64 d with
   | some (ob,xs)=>some { eR:=wL xs.length,T0:=[(61,.dK .i64 xs)],vl:=[(61,.arg 0)],e0:={ val:=.buf 100,new:=[.cD .i64 (M.carried xs) 3] },conds:=(xs.length<=100)::Ds 1099511627776 xs::ob }
   | none=>none
 | _=>none
def caS:Sum:=aK aB 100 aBx
theorem aTb (Γ:Env) (hg:Γ.aU=aB):aH Tryz.prog Γ 199 caS:=by
 refine aT hg fun vs T c hd hc=>?_
 unfold aBx at hd
 split at hd
 case h_2=>cases hd
 split at hd
 case h_2=>cases hd
 cases hd
 exact (YL _ (hc _ (by simp)) (hc _ (by simp))).words (by rw [hg];rfl) (fun _=>rfl) (fun _ _ h=>h) (fun _=>rfl) rfl rfl
def Wo (f:Nat):Option Sum:=match Nat.beq f 201 with
 | true=>some dgS
 | false=>match Nat.beq f 199 with
   | true=>some caS
   | false=>fF f
theorem Uw (f:Nat) (S:Sum) (h:Wo f=some S) (Γ:Env) (hg:Γ.aU=aB):aH Tryz.prog Γ f S:=by
 unfold Wo at h
 split at h
 .rename_i hb;have:=Nat.eq_of_beq_eq_true hb;subst this;cases h;exact aSx Γ hg
 .split at h
  .rename_i hb;have:=Nat.eq_of_beq_eq_true hb;subst this;cases h;exact aTb Γ hg
  .exact lA f S h Γ
noncomputable def Γf:Env:=env Wo 3
theorem FV:bX Tryz.prog Γf:=bJ Wo Uw 3
theorem FU:cG Tryz.prog Γf:=bH Wo 3
namespace M
def wK (xs:List Int):List Int:=((List.range 16).map fun j=>xs.getD j 0)++[xs.getD 16 0%4]
def h (xs:List Int) (i:Nat):Int:=xs.getD i 0/4+xs.getD (i+1) 0%4*64
def eC (xs:List Int) (k:Nat):List Int:=(List.range 17).map fun j=>if j<k then (wK xs).getD j 0+5*h xs (16+j) else (wK xs).getD j 0
def nP (xs:List Int) (k:Nat):Bool:=(List.range k).any fun j=>decide (h xs (16+j)>0)
end M
noncomputable def aBp:Option jA:=cA Γf (aC 100 (gF [])) 100 Tryz.f200.ntmps [9] 100 400 (.go (codeOf Tryz.f200)) [] (gU (wL 0) 100)
noncomputable def Bw:Code:=match aBp with
 | some ⟨.go (.loop L),_,_⟩=>L
 | _=>.skip
noncomputable def aCr:List Fr:=match aBp with
 | some ⟨_,K,_⟩=>K
 | _=>[]
def yW (n:Nat) (b:Bool) (i:Int):List (Nat × SV):=[(0,.dX 61 n),(4,.aI 100 false 0 17 17),(6,.bool true b),(7,.int false .i64 i)]
def yV (low:List Int):List (Nat × SB):=[(100,.ints .i64 low 3)]
theorem aZe (xs low:List Int) (n:Nat) (i:Int) :
 (gD 100 (aC 100 (gF xs)) [] (yW n false i) (yV low) 101 [] [] (cA Γf (aC 100 (gF xs)) 100 Tryz.f200.ntmps [9] 100 400 (.go (codeOf Tryz.f200)) [] ((gU (wL n) 100).hint []))) =
 sh (0:Int) fun z0=>
 sh (16:Int) fun z1=>
 sh (17:Nat) fun z2=>
 sh (4:Int) fun z3=>
 some (.go (.loop Bw),aCr,[z0<=z1,n=n,xs.length=xs.length,z1=z1,xs=xs,z0<=(15:Int),n=n,xs.length=xs.length,(15:Int)=(15:Int),xs=xs,z0<=(14:Int),n=n,xs.length=xs.length,(14:Int)=(14:Int),xs=xs,z0<=(13:Int),n=n,xs.length=xs.length,(13:Int)=(13:Int),xs=xs,z0<=(12:Int),n=n,xs.length=xs.length,(12:Int)=(12:Int),xs=xs,z0<=(11:Int),n=n,xs.length=xs.length,(11:Int)=(11:Int),xs=xs,z0<=(10:Int),n=n,xs.length=xs.length,(10:Int)=(10:Int),xs=xs,z0<=(9:Int),n=n,xs.length=xs.length,(9:Int)=(9:Int),xs=xs,z0<=(8:Int),n=n,xs.length=xs.length,(8:Int)=(8:Int),xs=xs,z0<=(7:Int),n=n,xs.length=xs.length,(7:Int)=(7:Int),xs=xs,z0<=(6:Int),n=n,xs.length=xs.length,(6:Int)=(6:Int),xs=xs,z0<=(5:Int),n=n,xs.length=xs.length,(5:Int)=(5:Int),xs=xs,z0<=z3,n=n,xs.length=xs.length,z3=z3,xs=xs,z0<=(3:Int),n=n,xs.length=xs.length,(3:Int)=(3:Int),xs=xs,z0<=(2:Int),n=n,xs.length=xs.length,(2:Int)=(2:Int),xs=xs,z0<=(1:Int),n=n,xs.length=xs.length,(1:Int)=(1:Int),xs=xs,z0<=z0,n=n,xs.length=xs.length,z0=z0,xs=xs,n=n,(0:Nat)=(0:Nat),z2=z2,z2=z2,z1=i,[xs.getD (0:Nat) z0,xs.getD (1:Nat) z0,xs.getD (2:Nat) z0,xs.getD (3:Nat) z0,xs.getD (4:Nat) z0,xs.getD (5:Nat) z0,xs.getD (6:Nat) z0,xs.getD (7:Nat) z0,xs.getD (8:Nat) z0,xs.getD (9:Nat) z0,xs.getD (10:Nat) z0,xs.getD (11:Nat) z0,xs.getD (12:Nat) z0,xs.getD (13:Nat) z0,xs.getD (14:Nat) z0,xs.getD (15:Nat) z0,(xs.getD (16:Nat) z0).tmod z3]=low/\(3:Nat)=(3:TypeId)]):=by kernel_rfl
theorem aZd (xs low BL:List Int) (n:Nat) (b':Bool) (i i':Int) :
 gD 100 (aC 100 (gF xs)) [] (yW n b' i') (yV BL) 101 [] [] (cA Γf (aC 100 (gF xs)) 100 Tryz.f200.ntmps [9] 100 400 (.go Bw) [] ((aN (yW n false i) (yV low) 101 [] []).hint [true,false])) =
 sh (0:Int) fun z4=>
 sh (i+(1:Int)) fun z3=>
 sh (IntKind.i64.wrap ((xs.getD i.toNat z4).tdiv (4:Int))+IntKind.i64.wrap ((xs.getD (IntKind.i64.wrap z3).toNat z4).tmod (4:Int)*(64:Int))) fun z0=>
 sh (i-(16:Int)) fun z1=>
 sh (IntKind.i64.wrap z1) fun z2=>
 sh (0:Nat) fun z5=>
 sh (1:Nat) fun z6=>
 sh (17:Nat) fun z7=>
 some (Cf.at Ex.normal,[],[z5+z2.toNat*z6<low.length,z4<=IntKind.i64.wrap z1/\IntKind.i64.wrap z1<(17:Int),z5+z2.toNat*z6+z6<=low.length,z4<=IntKind.i64.wrap z1/\IntKind.i64.wrap z1<(17:Int),decide ((17:Int)<=IntKind.i64.wrap z1)=false,z4<=IntKind.i64.wrap z3,n=n,xs.length=xs.length,IntKind.i64.wrap z3=IntKind.i64.wrap z3,xs=xs,z4<=i,n=n,xs.length=xs.length,i=i,xs=xs,decide (i<(↑n:Int))=true,n=n,z5=z5,z7=z7,z7=z7,decide (IntKind.i64.wrap z0>z4)=b',IntKind.i64.wrap z3=i',low.set (z5+z2.toNat*z6) (IntKind.i64.wrap (low.getD (z5+z2.toNat*z6+0) z4+IntKind.i64.wrap ((5:Int)*IntKind.i64.wrap z0)))=BL/\(3:TypeId)=(3:TypeId)]):=by kernel_rfl
theorem aZc (xs low BL:List Int) (n:Nat) (i i':Int) :
 gD 100 (aC 100 (gF xs)) [] (yW n true i') (yV BL) 101 [] [] (cA Γf (aC 100 (gF xs)) 100 Tryz.f200.ntmps [9] 100 400 (.go Bw) [] ((aN (yW n true i) (yV low) 101 [] []).hint [true,false])) =
 sh (i-(16:Int)) fun z0=>
 sh (IntKind.i64.wrap z0) fun z1=>
 sh (i+(1:Int)) fun z2=>
 sh (0:Int) fun z3=>
 sh (0:Nat) fun z4=>
 sh (1:Nat) fun z5=>
 sh (17:Nat) fun z6=>
 some (Cf.at Ex.normal,[],[z4+z1.toNat*z5<low.length,z3<=IntKind.i64.wrap z0/\IntKind.i64.wrap z0<(17:Int),z4+z1.toNat*z5+z5<=low.length,z3<=IntKind.i64.wrap z0/\IntKind.i64.wrap z0<(17:Int),decide ((17:Int)<=IntKind.i64.wrap z0)=false,z3<=IntKind.i64.wrap z2,n=n,xs.length=xs.length,IntKind.i64.wrap z2=IntKind.i64.wrap z2,xs=xs,z3<=i,n=n,xs.length=xs.length,i=i,xs=xs,decide (i<(↑n:Int))=true,n=n,z4=z4,z6=z6,z6=z6,IntKind.i64.wrap z2=i',low.set (z4+z1.toNat*z5) (IntKind.i64.wrap (low.getD (z4+z1.toNat*z5+0) z3+IntKind.i64.wrap ((5:Int)*IntKind.i64.wrap (IntKind.i64.wrap ((xs.getD i.toNat z3).tdiv (4:Int))+IntKind.i64.wrap ((xs.getD (IntKind.i64.wrap z2).toNat z3).tmod (4:Int)*(64:Int))))))=BL/\(3:TypeId)=(3:TypeId)]):=by kernel_rfl
theorem aRa (xs low:List Int) (n:Nat) (i:Int) :
 gD 100 (aC 100 (gF xs)) [] (yW n false i) (yV low) 101 [] [] (cA Γf (aC 100 (gF xs)) 100 Tryz.f200.ntmps [9] 100 400 (.go Bw) [] ((aN (yW n false i) (yV low) 101 [] []).hint [false])) =
 sh (17:Nat) fun z0=>
 some (Cf.at (Ex.exit 2),[],[decide (i<(↑n:Int))=false,n=n,(0:Nat)=(0:Nat),z0=z0,z0=z0,i=i,low=low/\(3:TypeId)=(3:TypeId)]):=by kernel_rfl
theorem aQz (xs low:List Int) (n:Nat) (i:Int) :
 gD 100 (aC 100 (gF xs)) [] (yW n true i) (yV low) 101 [] [] (cA Γf (aC 100 (gF xs)) 100 Tryz.f200.ntmps [9] 100 400 (.go Bw) [] ((aN (yW n true i) (yV low) 101 [] []).hint [false])) =
 sh (17:Nat) fun z0=>
 some (Cf.at (Ex.exit 2),[],[decide (i<(↑n:Int))=false,n=n,(0:Nat)=(0:Nat),z0=z0,z0=z0,i=i,low=low/\(3:TypeId)=(3:TypeId)]):=by kernel_rfl
theorem aZb (xs low:List Int) (n:Nat) (b:Bool) (i:Int) :
 rZ Γf (gF xs) 100 100 Tryz.f200 (cA Γf (aC 100 (gF xs)) 100 Tryz.f200.ntmps [9] 100 400 (.at (.exit 2)) aCr ((aN (yW n b i) (yV low) 101 [] []).hint [])) =
 sh (17:Nat) fun z1=>
 sh (List.drop (0:Nat) low) fun z2=>
 sh (List.take z1 z2) fun z0=>
 some {bV:=[z0.length<=(100:Nat),Ds (1099511627776:Int) z0,z1<=low.length/\z1<=z1,(0:Nat)=(0:Nat),z1=z1,z1=z1,z1<=low.length/\z1<=z1,z0.length=z0.length,List.take z1 z2=List.take z1 z2,z1<=low.length/\z1<=z1],val:=SV.eD [SV.buf 100,SV.bool true b],new:=[SB.cD IntKind.i64 (M.carried z0) 3]}:=by kernel_rfl
namespace M
theorem fY (xs:List Int) (k:Nat):(eC xs k).length=17:=by simp [eC]
theorem Rh (xs:List Int):eC xs 0=wK xs:=by
 apply List.ext_getElem
 .simp [eC,wK]
 .intro i h1 h2
  simp only [eC,List.getElem_map,List.getElem_range,Nat.not_lt_zero,if_false]
  simp [List.getD_eq_getElem?_getD,h2]
theorem Gb (xs:List Int) {k:Nat} (hk:k<17):(eC xs k).getD k 0=(wK xs).getD k 0:=by
 simp [eC,List.getD_eq_getElem?_getD,hk]
theorem Cz (xs:List Int) {k:Nat} (hk:k<17):(eC xs k).set k ((eC xs k).getD k 0+5*h xs (16+k))=eC xs (k+1):=by
 rw [Gb xs hk]
 apply List.ext_getElem
 .simp [eC]
 .intro i h1 h2
  rw [List.getElem_set]
  simp only [eC,List.getElem_map,List.getElem_range]
  split
  .rename_i e;subst e;rw [if_pos (by omega)]
  .rename_i e
   by_cases cK:i<k
   .rw [if_pos cK,if_pos (by omega)]
   .rw [if_neg cK,if_neg (by omega)]
theorem Db (xs:List Int) (k:Nat):nP xs (k+1)=(nP xs k||decide (h xs (16+k)>0)):=by simp [nP,List.range_succ]
theorem aCq {xs:List Int} (hd:Ds 255 xs) (i:Nat):0<=h xs i/\h xs i<=255:=by
 have a:=hd.get (by omega) i
 have b:=hd.get (by omega) (i+1)
 unfold h
 omega
theorem Um {xs:List Int} (hd:Ds 255 xs) (j:Nat):0<=(wK xs).getD j 0/\(wK xs).getD j 0<=255:=by
 have key:Ds 255 (wK xs):=by
  intro x hx
  simp only [wK,List.mem_append,List.mem_map,List.mem_range,List.mem_singleton] at hx
  rcases hx with ⟨j,_,rfl⟩ | rfl
  .exact hd.get (by omega) j
  .have:=hd.get (by omega) 16;omega
 exact key.get (by omega) j
theorem Mr {xs:List Int} (hd:Ds 255 xs) (k:Nat):Ds 1530 (eC xs k):=by
 intro x hx
 simp only [eC,List.mem_map,List.mem_range] at hx
 obtain ⟨j,_,rfl⟩:=hx
 have a:=Um hd j
 have b:=aCq hd (16+j)
 split <;> omega
def mW (xs:List Int):List Int:=carried (eC xs (xs.length-16))
def tY (xs:List Int):Bool:=nP xs (xs.length-16)
end M
theorem WX (xs:List Int) (hl:xs.length<=33) (hd:Ds 255 xs) :
 aD Tryz.prog Γf 200 (wL xs.length) (gF xs) 100 100 { val:=.eD [.buf 100,.bool false (M.tY xs)],new:=[.cD .i64 (M.mW xs) 3] }:=by
 have key:∀ bb,M.tY xs=bb->aD Tryz.prog Γf 200 (wL xs.length) (gF xs) 100 100 { val:=.eD [.buf 100,.bool true bb],new:=[.cD .i64 (M.mW xs) 3] }:=by
  intro bb pT
  refine bU FU FV Tryz.func200 (by kernel_rfl) rfl (Nat.le_of_ble_eq_true (by kernel_rfl)) rfl [] ?_
  intro w0 Mx V0 Q hb H
  have aM:=FU
  have aE:=FV
  have e0:(xs.getD 16 0).tmod 4=xs.getD 16 0%4:=Int.tmod_eq_emod_of_nonneg (hd.get (by omega) 16).1
  refine G.gD aM aE mix hb [] (aZe xs (M.eC xs 0) xs.length 16) (aA ?_) ?_
  .simp only [aO,e0,and_true,true_and]
   refine ⟨by omega,by omega,by omega,by omega,by omega,by omega,by omega,by omega,by omega,by omega,by omega,by omega,by omega,by omega,by omega,by omega,by omega,?_⟩
   rw [M.Rh];rfl
  refine G.loop (fun r s=>∃ k:Nat,(k<=xs.length-16)/\r=xs.length-16-k/\s=aN (yW xs.length (M.nP xs k) (16+k:Nat)) (yV (M.eC xs k)) 101 [] []) (r0:=xs.length-16) ⟨0,Nat.zero_le _,rfl,rfl⟩ ?_
  rintro r s ⟨k,hk,rfl,rfl⟩
  have tO:IntKind.i64.wrap (((16+k:Nat):Int)+1)=((16+(k+1):Nat):Int):=by rw [IntWalk.i64_in _ (by omega)];omega
  have PD:IntKind.i64.wrap (((16+k:Nat):Int)-16)=((k:Nat):Int):=by rw [IntWalk.i64_in _ (by omega)];omega
  by_cases cK:k<xs.length-16
  .have d1:=hd.get (by omega) (16+k)
   have d2:=hd.get (by omega) (16+k+1)
   have d3:=M.Um hd k
   have eh:IntKind.i64.wrap (IntKind.i64.wrap ((xs.getD (16+k) 0).tdiv 4)+IntKind.i64.wrap ((xs.getD (16+(k+1)) 0).tmod 4*64))=M.h xs (16+k):=by
    rw [show 16+(k+1)=16+k+1 from rfl,Int.tdiv_eq_ediv_of_nonneg d1.1,Int.tmod_eq_emod_of_nonneg d2.1,IntWalk.i64_in (xs.getD (16+k) 0/4) (by omega),IntWalk.i64_in (xs.getD (16+k+1) 0%4*64) (by omega),IntWalk.i64_in _ (by omega)]
    rfl
   have dh:=M.aCq hd (16+k)
   have e5:IntKind.i64.wrap ((M.eC xs k).getD k 0+IntKind.i64.wrap (5*M.h xs (16+k)))=(M.eC xs k).getD k 0+5*M.h xs (16+k):=by
    rw [M.Gb xs (by omega),IntWalk.i64_in (5*M.h xs (16+k)) (by omega),IntWalk.i64_in _ (by omega)]
   cases Pj:M.nP xs k with
   | false=>
     refine G.eK aM aE mix hb [true,false] (aZd xs (M.eC xs k) (M.eC xs (k+1)) xs.length (M.nP xs (k+1)) ((16+k:Nat):Int) ((16+(k+1):Nat):Int)) (aA ?_) (xs.length-16-(k+1)) (by omega) ⟨k+1,cK,rfl,rfl⟩
     simp only [aO,tO,PD,eh,e5,M.fY,Int.toNat_natCast,Nat.mul_one,Nat.zero_add,Nat.add_zero,M.Cz xs (show k<17 by omega),M.Db,Pj,Bool.false_or,and_true,true_and]
     exact ⟨by omega,by omega,by omega,by omega,by simp;omega,by omega,by omega,by simp;omega⟩
   | true=>
     refine G.eK aM aE mix hb [true,false] (aZc xs (M.eC xs k) (M.eC xs (k+1)) xs.length ((16+k:Nat):Int) ((16+(k+1):Nat):Int)) (aA ?_) (xs.length-16-(k+1)) (by omega) ⟨k+1,cK,rfl,by rw [M.Db,Pj];rfl⟩
     simp only [aO,tO,PD,eh,e5,M.fY,Int.toNat_natCast,Nat.mul_one,Nat.zero_add,Nat.add_zero,M.Cz xs (show k<17 by omega),and_true,true_and]
     exact ⟨by omega,by omega,by omega,by omega,by simp;omega,by omega,by omega,by simp;omega⟩
  .have Dm:k=xs.length-16:=by omega
   subst Dm
   have aYl:M.nP xs (xs.length-16)=bb:=pT
   rw [aYl]
   have jU:((M.eC xs (xs.length-16)).drop 0).take 17=M.eC xs (xs.length-16):=by
    rw [List.drop_zero,List.take_of_length_le (by rw [M.fY];omega)]
   have fin:G Tryz.prog Γf w0 Mx (aC 100 (gF xs)) Tryz.f200.ntmps 100 V0 (.at (.exit 2)) aCr (aN (yW xs.length bb ((16+(xs.length-16):Nat):Int)) (yV (M.eC xs (xs.length-16))) 101 [] []) Q:=by
    refine G.fin aM aE mix [] H (aZb xs _ _ bb _) ?_ rfl (by rw [jU];rfl) rfl
    simp only [jU]
    refine aA ?_
    simp only [aO,M.fY,and_true,true_and]
    exact ⟨by omega,fun x hx=>by have:=M.Mr hd _ x hx;omega,by omega⟩
   cases bb with
   | false=>
     refine G.gD aM aE mix hb [false] (aRa xs _ _ _) (aA ?_) (G.leave (by simp) fin)
     simp only [aO,and_true]
     simp;omega
   | true=>
     refine G.gD aM aE mix hb [false] (aQz xs _ _ _) (aA ?_) (G.leave (by simp) fin)
     simp only [aO,and_true]
     simp;omega
 exact (key _ rfl).words rfl (fun _=>rfl) (fun _ _ h=>h) (fun _=>rfl) rfl rfl
def aBq (vs:List SV) (T:bA):Option Canon:=match vs with
 | [d]=>match fG T .i64 d with
   | some (ob,xs)=>some { eR:=wL xs.length,T0:=[(61,.dK .i64 xs)],vl:=[(61,.arg 0)],e0:={ val:=.eD [.buf 100,.bool false (M.tY xs)],new:=[.cD .i64 (M.mW xs) 3] },conds:=(xs.length<=33)::Ds 255 xs::ob }
   | none=>none
 | _=>none
def foS:Sum:=aK aB 100 aBq
theorem aQy (Γ:Env) (hg:Γ.aU=aB):aH Tryz.prog Γ 200 foS:=by
 refine aT hg fun vs T c hd hc=>?_
 unfold aBq at hd
 split at hd
 case h_2=>cases hd
 split at hd
 case h_2=>cases hd
 cases hd
 exact (WX _ (hc _ (by simp)) (hc _ (by simp))).words (by rw [hg];rfl) (fun _=>rfl) (fun _ _ h=>h) (fun _=>rfl) rfl rfl
namespace M
def vs (f:Nat->Int):Nat->Int
 | 0=>0
 | n+1=>f 0+256*vs (fun i=>f (i+1)) n
theorem iO {f g:Nat->Int}:∀ {n:Nat},(∀ i,i<n->f i=g i)->vs f n=vs g n
 | 0,_=>rfl
 | n+1,h=>by
   unfold vs
   rw [h 0 (by omega),iO (f:=fun i=>f (i+1)) (g:=fun i=>g (i+1)) fun i hi=>h (i+1) (by omega)]
theorem pB (f:Nat->Int) (m:Nat):∀ n:Nat,vs f (n+m)=vs f n+256^n*vs (fun i=>f (n+i)) m:=by
 intro n
 induction n generalizing f with
 | zero=>simp [vs]
 | succ n ih=>
   rw [show n+1+m=(n+m)+1 from by omega,vs,vs,ih]
   rw [show (fun i=>f (n+i+1))=fun i=>f (n+1+i) from by funext i;congr 1;omega,Int.pow_succ]
   rw [Int.mul_add,Int.mul_comm (256^n) 256,Int.mul_assoc]
   omega
theorem Hs (f g:Nat->Int) (c:Int):∀ n:Nat,vs (fun i=>f i+c*g i) n=vs f n+c*vs g n
 | 0=>by simp [vs]
 | n+1=>by
   have:=Hs (fun i=>f (i+1)) (fun i=>g (i+1)) c n
   unfold vs
   rw [this,Int.mul_add,Int.mul_add,Int.mul_left_comm]
   omega
theorem Iq {f:Nat->Int}:∀ {n:Nat},(∀ i,i<n->f i=0)->vs f n=0
 | 0,_=>rfl
 | n+1,h=>by
   unfold vs
   rw [h 0 (by omega),Iq (f:=fun i=>f (i+1)) fun i hi=>h (i+1) (by omega)]
   rfl
theorem hX {f:Nat->Int}:∀ {n:Nat},(∀ i,i<n->0<=f i)->0<=vs f n
 | 0,_=>Int.le_refl _
 | n+1,h=>by
   have h1:=h 0 (by omega)
   have h2:=hX (f:=fun i=>f (i+1)) (n:=n) fun i hi=>h (i+1) (by omega)
   unfold vs
   omega
theorem GD {f:Nat->Int}:∀ {n:Nat},(∀ i,i<n->0<=f i)->(∃ i,i<n/\0<f i)->0<vs f n
 | 0,_,h=>by obtain ⟨i,hi,_⟩:=h;omega
 | n+1,h,⟨i,hi,hp⟩=>by
   have h1:=h 0 (by omega)
   have h2:=hX (f:=fun i=>f (i+1)) (n:=n) fun i hi=>h (i+1) (by omega)
   unfold vs
   cases i with
   | zero=>omega
   | succ i=>
     have:=GD (f:=fun i=>f (i+1)) (n:=n) (fun i hi=>h (i+1) (by omega)) ⟨i,by omega,hp⟩
     omega
theorem iQ (f:Nat->Int) (n:Nat):vs f (n+1)=vs f n+256^n*f n:=by
 rw [pB f 1 n];simp [vs]
theorem Sg {f:Nat->Int}:∀ {n:Nat},(∀ i,i<n->0<=f i/\f i<=255)->vs f n<256^n
 | 0,_=>by show (0:Int)<256^0;decide
 | n+1,h=>by
   have h1:=h 0 (by omega)
   have h2:=Sg (f:=fun i=>f (i+1)) (n:=n) fun i hi=>h (i+1) (by omega)
   unfold vs
   rw [Int.pow_succ]
   omega
theorem Lz (b:Nat->Int):∀ n:Nat,4*vs (fun j=>b j/4+b (j+1)%4*64) n+b 0%4=vs b n+256^n*(b n%4)
 | 0=>by simp [vs]
 | n+1=>by
   have ih:=Lz (fun j=>b (j+1)) n
   unfold vs
   rw [Int.pow_succ]
   have e:256^n*256*(b (n+1)%4)=256*(256^n*(b (n+1)%4)):=by rw [Int.mul_comm (256^n) 256,Int.mul_assoc]
   rw [e]
   generalize 256^n*(b (n+1)%4)=z at *
   generalize vs (fun i=>b (i+1)/4+b (i+1+1)%4*64) n=y at *
   generalize vs (fun i=>b (i+1)) n=x at *
   omega
def V (xs:List Int):Int:=vs (fun i=>xs.getD i 0) xs.length
theorem Ay (xs:List Int) (n:Nat) (h:xs.length<=n):vs (fun i=>xs.getD i 0) n=V xs:=by
 obtain ⟨m,rfl⟩:∃ m,n=xs.length+m:=⟨n-xs.length,by omega⟩
 rw [pB]
 have:vs (fun i=>xs.getD (xs.length+i) 0) m=0:=Iq fun i _=>by
  rw [List.getD_eq_getElem?_getD,List.getElem?_eq_none (by omega)];rfl
 rw [this];unfold V;omega
theorem Lt (f:Nat->Int) (n:Nat):V ((List.range n).map f)=vs f n:=by
 unfold V
 rw [List.length_map,List.length_range]
 exact iO fun i hi=>by simp [List.getD_eq_getElem?_getD,hi]
theorem Cs (a b:List Int):V (a++b)=V a+256^a.length*V b:=by
 unfold V
 rw [List.length_append,pB]
 congr 1
 .exact iO fun i hi=>by simp [List.getD_eq_getElem?_getD,List.getElem?_append,hi]
 .congr 1
  exact iO fun i _=>by rw [List.getD_eq_getElem?_getD,List.getD_eq_getElem?_getD,List.getElem?_append_right (Nat.le_add_right _ _),Nat.add_sub_cancel_left]
theorem By (x:Int) (r:List Int):V (x::r)=x+256*V r:=by
 unfold V
 rw [List.length_cons,vs]
 simp
theorem Tl:V []=0:=rfl
theorem bCc:∀ c:Nat,V (dg c)=c:=by
 intro c
 induction c using Nat.strongRecOn with
 | _ c ih=>
   by_cases h:c=0
   .subst h;rw [uI];rfl
   .rw [Il h,By,ih (c/256) (by omega)];omega
theorem aTi:∀ c:Nat,Ds 255 (dg c):=by
 intro c
 induction c using Nat.strongRecOn with
 | _ c ih=>
   by_cases h:c=0
   .subst h;rw [uI];intro x hx;cases hx
   .rw [Il h]
    intro x hx
    rcases List.mem_cons.1 hx with rfl | hx
    .omega
    .exact ih (c/256) (by omega) x hx
theorem Mb (xs:List Int):∀ n:Nat,vs (fun j=>(cy xs j+xs.getD j 0)%256) n+256^n*cy xs n=vs (fun j=>xs.getD j 0) n:=by
 intro n
 induction n with
 | zero=>simp [vs,cy]
 | succ n ih=>
   rw [iQ,iQ,Int.pow_succ,Int.mul_assoc,<- ih]
   have e2:256*cy xs (n+1)=(cy xs n+xs.getD n 0)-(cy xs n+xs.getD n 0)%256:=by rw [show cy xs (n+1)=(cy xs n+xs.getD n 0)/256 from rfl];omega
   rw [e2,Int.mul_sub,Int.mul_add]
   omega
theorem Gj (xs:List Int) {m:Int} (hm:0<=m) (h:Ds m xs):V (carried xs)=V xs:=by
 have:=Te hm h xs.length
 unfold carried
 rw [Cs,bCc,nU,Int.toNat_of_nonneg this.1]
 unfold outs
 rw [Lt,Mb]
 rfl
theorem Dc (xs:List Int):Ds 255 (carried xs):=by
 intro x hx
 unfold carried at hx
 rcases List.mem_append.1 hx with hx | hx
 .simp only [outs,List.mem_map] at hx
  obtain ⟨j,_,rfl⟩:=hx
  omega
 .exact aTi _ x hx
theorem nI (xs:List Int) (n:Nat) {m:Int} (hm:0<=m) (h:Ds m xs) (hv:V xs<256^(xs.length+n)):(carried xs).length<=xs.length+n:=by
 have h1:=Te hm h xs.length
 have h2:=Mb xs xs.length
 have h3:=hX (f:=fun j=>(cy xs j+xs.getD j 0)%256) (n:=xs.length) fun i _=>by omega
 have h4:256^xs.length*cy xs xs.length<256^(xs.length+n):=by unfold V at hv;omega
 rw [Int.pow_add] at h4
 have h5:cy xs xs.length<256^n:=Int.lt_of_mul_lt_mul_left h4 (Int.le_of_lt (Int.pow_pos (by omega)))
 unfold carried
 rw [List.length_append,nU]
 have:=xQ n (cy xs xs.length).toNat (by
  have e:(((cy xs xs.length).toNat:Nat):Int)<((256^n:Nat):Int):=by rw [Int.toNat_of_nonneg h1.1,Int.natCast_pow];exact h5
  omega)
 omega
theorem aTg {xs:List Int} (hl:xs.length<=33) (hd:Ds 255 xs) :
 V (eC xs (xs.length-16))=V xs%1361129467683753853853498429727072845824+5*(V xs/1361129467683753853853498429727072845824) /\
 (nP xs (xs.length-16)=true<->0<V xs/1361129467683753853853498429727072845824):=by
 have ha:∀ i,0<=xs.getD i 0/\xs.getD i 0<=255:=hd.get (by omega)
 have h0:∀ i,xs.length<=i->xs.getD i 0=0:=fun i hi=>by rw [List.getD_eq_getElem?_getD,List.getElem?_eq_none hi];rfl
 have hh0:∀ j,xs.length-16<=j->h xs (16+j)=0:=fun j hj=>by
  unfold h
  rw [h0 (16+j) (by omega),h0 (16+j+1) (by omega)];rfl
 have eV:V xs=vs (fun i=>xs.getD i 0) 16+256^16*vs (fun i=>xs.getD (16+i) 0) 17:=by
  rw [<- Ay xs (16+17) (by omega),pB]
 have eS:=Lz (fun i=>xs.getD (16+i) 0) 17
 simp only [Nat.add_zero] at eS
 rw [h0 (16+17) (by omega)] at eS
 have eH:vs (fun j=>h xs (16+j)) 17=vs (fun j=>xs.getD (16+j) 0/4+xs.getD (16+(j+1)) 0%4*64) 17:=iO fun i _=>rfl
 have eL0:vs (fun j=>(wK xs).getD j 0) 17=vs (fun i=>xs.getD i 0) 16+256^16*(xs.getD 16 0%4):=by
  rw [iQ,iO (g:=fun i=>xs.getD i 0) fun i hi=>by simp [wK,List.getD_eq_getElem?_getD,List.getElem?_append,hi]]
  simp [wK,List.getD_eq_getElem?_getD]
 have eL:V (eC xs (xs.length-16))=vs (fun j=>(wK xs).getD j 0) 17+5*vs (fun j=>h xs (16+j)) 17:=by
  unfold eC
  rw [Lt,<- Hs]
  refine iO fun i hi=>?_
  split
  .rfl
  .rw [hh0 i (by omega)];omega
 have b1:vs (fun i=>xs.getD i 0) 16<256^16:=Sg fun i _=>ha i
 have b0:=hX (f:=fun i=>xs.getD i 0) (n:=16) fun i _=>(ha i).1
 have b2:=ha 16
 have hhn:∀ j,0<=h xs (16+j):=fun j=>(aCq hd _).1
 have b3:=hX (f:=fun j=>h xs (16+j)) (n:=17) fun j _=>hhn j
 rw [show ((256:Int)^16)=340282366920938463463374607431768211456 from rfl] at *
 rw [<- eH] at eS
 have Pj:nP xs (xs.length-16)=true<->0<vs (fun j=>h xs (16+j)) 17:=by
  constructor
  .intro hc
   simp only [nP,List.any_eq_true,List.mem_range,decide_eq_true_eq] at hc
   obtain ⟨j,hj,hp⟩:=hc
   exact GD (fun j _=>hhn j) ⟨j,by omega,hp⟩
  .intro hc
   cases hb:nP xs (xs.length-16) with
   | true=>rfl
   | false=>
     have:vs (fun j=>h xs (16+j)) 17=0:=Iq fun j _=>by
      by_cases hj:j<xs.length-16
      .have:¬ (h xs (16+j)>0):=fun q=>by
        have:nP xs (xs.length-16)=true:=by
         simp only [nP,List.any_eq_true,List.mem_range,decide_eq_true_eq]
         exact ⟨j,hj,q⟩
        rw [hb] at this;cases this
       have:=hhn j
       omega
      .exact hh0 j (by omega)
     omega
 rw [Pj,eL,eL0,eV]
 generalize vs (fun i=>xs.getD i 0) 16=A at *
 generalize vs (fun j=>h xs (16+j)) 17=H at *
 generalize vs (fun i=>xs.getD (16+i) 0) 17=C at *
 generalize xs.getD 16 0=D at *
 constructor
 .omega
 .constructor <;> intro hq <;> omega
end M
def iH (n:Nat) (xs:List Int):List Int:=(List.range n).map fun j=>xs.getD j 0
theorem xT {n:Nat} {xs:List Int} (h:xs.length=n):iH n xs=xs:=by
 unfold iH
 apply List.ext_getElem
 .simp [h]
 .intro i h1 h2
  simp [List.getD_eq_getElem?_getD,h2]
namespace B
def word (l:List Int) (i:Nat):Int:=oG .u32 (oG .u32 (oG .u32 (IntKind.u32.wrap (l.getD (4*i) 0)) (dZ .u32 (IntKind.u32.wrap (l.getD (4*i+1) 0)) 8)) (dZ .u32 (IntKind.u32.wrap (l.getD (4*i+2) 0)) 16)) (dZ .u32 (IntKind.u32.wrap (l.getD (4*i+3) 0)) 24)
def AF (x k:Int):Int:=oG .u32 (dZ .u32 x k) (cE .u32 x (32-k))
def qr (v:List Int) (a b c d:Nat):List Int:=
 let v:=v.set a (IntKind.u32.wrap (v.getD a 0+v.getD b 0))
 let v:=v.set d (AF (gB .u32 (v.getD d 0) (v.getD a 0)) 16)
 let v:=v.set c (IntKind.u32.wrap (v.getD c 0+v.getD d 0))
 let v:=v.set b (AF (gB .u32 (v.getD b 0) (v.getD c 0)) 12)
 let v:=v.set a (IntKind.u32.wrap (v.getD a 0+v.getD b 0))
 let v:=v.set d (AF (gB .u32 (v.getD d 0) (v.getD a 0)) 8)
 let v:=v.set c (IntKind.u32.wrap (v.getD c 0+v.getD d 0))
 v.set b (AF (gB .u32 (v.getD b 0) (v.getD c 0)) 7)
def dr (v:List Int):List Int:=
 qr (qr (qr (qr (qr (qr (qr (qr v 0 4 8 12) 1 5 9 13) 2 6 10 14) 3 7 11 15) 0 5 10 15) 1 6 11 12) 2 7 8 13) 3 4 9 14
def rounds (n:Nat) (v:List Int):List Int:=match n with
 | 0=>v
 | n+1=>rounds n (dr v)
def init (key nonce:List Int) (ctr:Int):List Int:=[1634760805,857760878,2036477234,1797285236]++(List.range 8).map (word key)++[ctr]++(List.range 3).map (word nonce)
def out (v w:List Int):List Int:=(List.range 64).map fun j=>IntKind.u8.wrap (cE .u32 (IntKind.u32.wrap (v.getD (j/4) 0+w.getD (j/4) 0)) (IntKind.i64.wrap (8*(j%4:Nat))))
def block (key nonce:List Int) (ctr:Int):List Int:=out (rounds 10 (init key nonce ctr)) (init key nonce ctr)
end B
def Wf (key nonce:List Int) (c:Int) (i:Nat):Int:=(B.block key nonce (IntKind.u32.wrap (c+(i/64:Nat)))).getD (i%64) 0
def cP (key nonce:List Int) (c:Int) (off n:Nat) (xs:List Int):List Int:=
 (List.range xs.length).map fun m=>if off<=m/\m<off+n then gB .u8 (xs.getD m 0) (Wf key nonce c (m-off)) else xs.getD m 0
theorem fX (key nonce:List Int) (c:Int) (off n:Nat) (xs:List Int):(cP key nonce c off n xs).length=xs.length:=by simp [cP]
theorem xI (key nonce:List Int) (c:Int) (off n:Nat) (xs:List Int) {m:Nat} (h:m<xs.length):(cP key nonce c off n xs).getD m 0=if off<=m/\m<off+n then gB .u8 (xs.getD m 0) (Wf key nonce c (m-off)) else xs.getD m 0:=by
 simp [cP,List.getD_eq_getElem?_getD,h]
theorem Qt (key nonce:List Int) (c:Int) (off:Nat) (xs:List Int):cP key nonce c off 0 xs=xs:=by
 apply List.ext_getElem
 .simp [cP]
 .intro i h1 h2
  have:¬ (off<=i/\i<off+0):=by omega
  simp only [cP,List.getElem_map,List.getElem_range,if_neg this]
  simp [List.getD_eq_getElem?_getD,h2]
theorem Qu (key nonce:List Int) (c:Int) (off n:Nat) (xs:List Int) (h:off+n<xs.length) :
 (cP key nonce c off n xs).set (off+n) (gB .u8 ((cP key nonce c off n xs).getD (off+n) 0) (Wf key nonce c n))=cP key nonce c off (n+1) xs:=by
 apply List.ext_getElem
 .simp [cP]
 .intro i h1 h2
  have hl:i<xs.length:=by simpa [cP] using h2
  rw [List.getElem_set]
  split
  .rename_i e
   subst e
   rw [xI _ _ _ _ _ _ h,if_neg (by omega)]
   simp only [cP,List.getElem_map,List.getElem_range]
   rw [if_pos (by omega),Nat.add_sub_cancel_left]
  .rename_i e
   simp only [cP,List.getElem_map,List.getElem_range]
   by_cases hc:off<=i/\i<off+n
   .rw [if_pos hc,if_pos (by omega)]
   .rw [if_neg hc,if_neg (by omega)]
namespace M
def p:Int:=1361129467683753853853498429727072845819
def num (n:Int):List Int:=(List.range 17).map fun i=>n/256^i%256
theorem jX (n:Int):(num n).length=17:=by simp [num]
theorem Uh (n:Int) {i:Nat} (h:i<17):(num n).getD i 0=n/256^i%256:=by simp [num,List.getD_eq_getElem?_getD,h]
theorem Ma {f:Nat->Int} (hf:∀ i,0<=f i/\f i<=255) {n i:Nat} (h:i<n):vs f n/256^i%256=f i:=by
 obtain ⟨m,rfl⟩:∃ m,n=i+(m+1):=⟨n-i-1,by omega⟩
 rw [pB f (m+1) i,vs]
 have h1:=Sg (f:=f) (n:=i) fun j _=>hf j
 have h2:=hX (f:=f) (n:=i) fun j _=>(hf j).1
 have h3:(0:Int)<256^i:=Int.pow_pos (by omega)
 have e:(vs f i+256^i*(f (i+0)+256*vs (fun j=>f (i+(j+1))) m))/256^i=f (i+0)+256*vs (fun j=>f (i+(j+1))) m:=by
  rw [Int.add_mul_ediv_left _ _ (by omega),Int.ediv_eq_zero_of_lt h2 h1,Int.zero_add]
 rw [e,Nat.add_zero]
 have:=hf i
 omega
theorem aAx {d:List Int} (hd:Ds 255 d):iH 17 d=num (V d):=by
 have ha:∀ i,0<=d.getD i 0/\d.getD i 0<=255:=hd.get (by omega)
 unfold iH num
 refine List.map_congr_left fun i hi=>?_
 have hi:i<17:=by simpa using hi
 rw [<- Ay d (d.length+17) (by omega),Ma ha (by omega)]
def Ar (d:List Int) (k:Nat):Bool:=(List.range k).all fun j=>d.getD (1+j) 0==(if 1+j=16 then 3 else 255)
theorem rS (d:List Int) (k:Nat):Ar d (k+1)=(Ar d k&&(d.getD (1+k) 0==(if 1+k=16 then 3 else 255))):=by simp [Ar,List.range_succ]
theorem V17 {d:List Int} (hd:Ds 255 d) (h:V d<1361129467683753853853498429727072845824):V d=d.getD 0 0+256*vs (fun i=>d.getD (i+1) 0) 16:=by
 have ha:∀ i,0<=d.getD i 0/\d.getD i 0<=255:=hd.get (by omega)
 have e:=pB (fun i=>d.getD i 0) d.length 17
 rw [Nat.add_comm,Ay d (d.length+17) (by omega)] at e
 have h2:=hX (f:=fun i=>d.getD (17+i) 0) (n:=d.length) fun i _=>(ha _).1
 have h3:=hX (f:=fun i=>d.getD i 0) (n:=17) fun i _=>(ha _).1
 rw [show ((256:Int)^17)=87112285931760246646623899502532662132736 from rfl] at e
 have:vs (fun i=>d.getD (17+i) 0) d.length=0:=by omega
 rw [this] at e
 rw [e,vs]
 omega
theorem GG {f:Nat->Int}:∀ {n:Nat},(∀ i,i<n->f i=255)->vs f n=256^n-1
 | 0,_=>by simp [vs]
 | n+1,h=>by
   unfold vs
   rw [h 0 (by omega),GG (f:=fun i=>f (i+1)) fun i hi=>h (i+1) (by omega),Int.pow_succ]
   omega
theorem aHq {d:List Int} (hd:Ds 255 d) (h:V d<1361129467683753853853498429727072845824) (hh:Ar d 16=true) (h0:251<=d.getD 0 0) :
 V d%p=d.getD 0 0-251:=by
 have ha:∀ i,0<=d.getD i 0/\d.getD i 0<=255:=hd.get (by omega)
 have hx:∀ j,j<16->d.getD (1+j) 0=if 1+j=16 then 3 else 255:=fun j hj=>by
  have:=List.all_eq_true.1 hh j (by simpa using hj)
  simpa using this
 have e:vs (fun i=>d.getD (i+1) 0) 16=5316911983139663491615228241121378303:=by
  rw [iQ,GG fun i hi=>by rw [Nat.add_comm,hx i (by omega),if_neg (by omega)]]
  have:=hx 15 (by omega)
  rw [if_pos rfl] at this
  rw [show (15+1:Nat)=1+15 from rfl,this]
  rfl
 rw [V17 hd h,e]
 have:=ha 0
 unfold p
 omega
theorem Xo {x:Int} (h0:0<=x) (h:x<256):num x=x::List.replicate 16 0:=by
 apply List.ext_getElem
 .simp [num]
 .intro i h1 h2
  simp only [num,List.getElem_map,List.getElem_range]
  cases i with
  | zero=>simp;omega
  | succ i=>
    have:x/256^(i+1)=0:=by
     apply Int.ediv_eq_zero_of_lt h0
     have:(1:Int)<=256^i:=Int.pow_pos (by omega)
     rw [Int.pow_succ]
     omega
    rw [this,List.getElem_cons_succ,List.getElem_replicate]
    rfl
theorem aBl {d:List Int} (hd:Ds 255 d) (h:V d<1361129467683753853853498429727072845824) (hn:¬ (Ar d 16=true/\251<=d.getD 0 0)):V d<p:=by
 have ha:∀ i,0<=d.getD i 0/\d.getD i 0<=255:=hd.get (by omega)
 apply Int.lt_of_not_ge
 intro AP
 apply hn
 unfold p at AP
 have hg:∀ i,d.getD i 0=V d/256^i%256:=fun i=>by
  rw [<- Ay d (d.length+i+1) (by omega),Ma ha (by omega)]
 refine ⟨?_,?_⟩
 .unfold Ar
  rw [List.all_eq_true]
  intro j hj
  have hj:j<16:=by simpa using hj
  rw [hg]
  generalize V d=v at *
  rcases (by omega:j=0\/j=1\/j=2\/j=3\/j=4\/j=5\/j=6\/j=7\/j=8\/j=9\/j=10\/j=11\/j=12\/j=13\/j=14\/j=15) with rfl | rfl | rfl | rfl | rfl | rfl | rfl | rfl | rfl | rfl | rfl | rfl | rfl | rfl | rfl | rfl <;> simp <;> omega
 .rw [hg]
  simp
  omega
end M
def CE (f:Nat):Option Sum:=match Nat.beq f 200 with
 | true=>some foS
 | false=>Wo f
theorem XT (f:Nat) (S:Sum) (h:CE f=some S) (Γ:Env) (hg:Γ.aU=aB):aH Tryz.prog Γ f S:=by
 unfold CE at h
 split at h
 .rename_i hb;have:=Nat.eq_of_beq_eq_true hb;subst this;cases h;exact aQy Γ hg
 .exact Uw f S h Γ hg
noncomputable def Γl:Env:=env CE 3
theorem FT:bX Tryz.prog Γl:=bJ CE XT 3
theorem FR:cG Tryz.prog Γl:=bH CE 3
noncomputable def aBb:Option jA:=cA Γl (aC 100 (gF [])) 100 Tryz.f173.ntmps [3] 100 400 (.go (codeOf Tryz.f173)) [] (gU (wL 0) 100)
noncomputable def Hx:Code:=match aBb with
 | some ⟨.go (.loop L),_,_⟩=>L
 | _=>.skip
noncomputable def aCh:List Fr:=match aBb with
 | some ⟨_,K,_⟩=>K
 | _=>[]
def Ea (b:Bool):List (Nat × SV):=[(0,.buf 100),(2,.ptr 101 true 0),(3,.bool true b)]
def jT (d:List Int):List (Nat × SB):=[(100,.cD .i64 d 3),(101,.own (List.replicate 17 (.int true .i64 0)) 190)]
noncomputable def GX:Option jA:=cA Γl (aC 100 (gF [])) 100 Tryz.f173.ntmps [3,7] 100 400 (.at (.exit 0)) aCh (aN (Ea false) (jT []) 102 [] [])
noncomputable def pG:Code:=match GX with
 | some ⟨.go (.loop L),_,_⟩=>L
 | _=>.skip
noncomputable def Su:List Fr:=match GX with
 | some ⟨_,K,_⟩=>K
 | _=>[]
def kJ (b:Bool) (i:Int):List (Nat × SV):=[(0,.buf 100),(2,.ptr 101 true 0),(4,.bool true b),(5,.int false .i64 i)]
theorem aXe (xs d:List Int) (n:Nat) :
 (gD 100 (aC 100 (gF xs)) [] (Ea true) (jT d) 102 [] [] (cA Γl (aC 100 (gF xs)) 100 Tryz.f173.ntmps [3] 100 400 (.go (codeOf Tryz.f173)) [] ((gU (wL n) 100).hint []))) =
 some (.go (.loop Hx),aCh,[xs.length<=(100:Nat),Ds (1099511627776:Int) xs,n=n,xs.length=xs.length,xs=xs,M.carried xs=d]):=by kernel_rfl
theorem aPt (xs d d':List Int) :
 gD 100 (aC 100 (gF xs)) [] (Ea true) (jT d') 102 [] [] (cA Γl (aC 100 (gF xs)) 100 Tryz.f173.ntmps [3] 100 400 (.go Hx) [] ((aN (Ea true) (jT d) 102 [] []).hint [])) =
 some (Cf.at Ex.normal,[],[d.length<=(33:Nat),Ds (255:Int) d,d.length=d.length,d=d,M.tY d=true,M.mW d=d']):=by kernel_rfl
theorem aPu (xs d d':List Int) :
 gD 100 (aC 100 (gF xs)) [] (Ea false) (jT d') 102 [] [] (cA Γl (aC 100 (gF xs)) 100 Tryz.f173.ntmps [3] 100 400 (.go Hx) [] ((aN (Ea true) (jT d) 102 [] []).hint [])) =
 some (Cf.at Ex.normal,[],[d.length<=(33:Nat),Ds (255:Int) d,d.length=d.length,d=d,M.tY d=false,M.mW d=d']):=by kernel_rfl
theorem aXd (xs d:List Int) :
 gD 100 (aC 100 (gF xs)) [] (Ea false) (jT d) 102 [] [] (cA Γl (aC 100 (gF xs)) 100 Tryz.f173.ntmps [3] 100 400 (.go Hx) [] ((aN (Ea false) (jT d) 102 [] []).hint [])) =
 some (Cf.at (Ex.exit 0),[],[d=d]):=by kernel_rfl
theorem aXc (xs d:List Int) (i:Int) :
 (gD 100 (aC 100 (gF xs)) [] (kJ true i) (jT d) 102 [] [] (cA Γl (aC 100 (gF xs)) 100 Tryz.f173.ntmps [3,7] 100 400 (.at (.exit 0)) aCh ((aN (Ea false) (jT d) 102 [] []).hint []))) =
 some (.go (.loop pG),Su,[(1:Int)=i,d=d]):=by kernel_rfl
theorem aXb (xs d:List Int) (i i':Int) (b':Bool) :
 gD 100 (aC 100 (gF xs)) [] (kJ b' i') (jT d) 102 [] [] (cA Γl (aC 100 (gF xs)) 100 Tryz.f173.ntmps [3,7] 100 400 (.go pG) [] ((aN (kJ true i) (jT d) 102 [] []).hint [true,false])) =
 some (Cf.at Ex.normal,[],[(0:Int)<=i,d.length=d.length,i=i,d=d,(i==(16:Int))=false,decide (i<(17:Int))=true,(d.getD i.toNat (0:Int)==(255:Int))=b',IntKind.i64.wrap (i+(1:Int))=i',d=d]):=by kernel_rfl
theorem aXa (xs d:List Int) (i i':Int) (b':Bool) :
 gD 100 (aC 100 (gF xs)) [] (kJ b' i') (jT d) 102 [] [] (cA Γl (aC 100 (gF xs)) 100 Tryz.f173.ntmps [3,7] 100 400 (.go pG) [] ((aN (kJ true i) (jT d) 102 [] []).hint [true,true])) =
 some (Cf.at Ex.normal,[],[(0:Int)<=i,d.length=d.length,i=i,d=d,(i==(16:Int))=true,decide (i<(17:Int))=true,(d.getD i.toNat (0:Int)==(3:Int))=b',IntKind.i64.wrap (i+(1:Int))=i',d=d]):=by kernel_rfl
theorem aPs (xs d:List Int) (i i':Int) :
 gD 100 (aC 100 (gF xs)) [] (kJ false i') (jT d) 102 [] [] (cA Γl (aC 100 (gF xs)) 100 Tryz.f173.ntmps [3,7] 100 400 (.go pG) [] ((aN (kJ false i) (jT d) 102 [] []).hint [true,false])) =
 some (Cf.at Ex.normal,[],[(i==(16:Int))=false,decide (i<(17:Int))=true,IntKind.i64.wrap (i+(1:Int))=i',d=d]):=by kernel_rfl
theorem aPr (xs d:List Int) (i i':Int) :
 gD 100 (aC 100 (gF xs)) [] (kJ false i') (jT d) 102 [] [] (cA Γl (aC 100 (gF xs)) 100 Tryz.f173.ntmps [3,7] 100 400 (.go pG) [] ((aN (kJ false i) (jT d) 102 [] []).hint [true,true])) =
 some (Cf.at Ex.normal,[],[(i==(16:Int))=true,decide (i<(17:Int))=true,IntKind.i64.wrap (i+(1:Int))=i',d=d]):=by kernel_rfl
theorem aPm (xs d:List Int) (i:Int) :
 gD 100 (aC 100 (gF xs)) [] (kJ true i) (jT d) 102 [] [] (cA Γl (aC 100 (gF xs)) 100 Tryz.f173.ntmps [3,7] 100 400 (.go pG) [] ((aN (kJ true i) (jT d) 102 [] []).hint [false])) =
 some (Cf.at (Ex.exit 2),[],[decide (i<(17:Int))=false,i=i,d=d]):=by kernel_rfl
theorem aPn (xs d:List Int) (i:Int) :
 gD 100 (aC 100 (gF xs)) [] (kJ false i) (jT d) 102 [] [] (cA Γl (aC 100 (gF xs)) 100 Tryz.f173.ntmps [3,7] 100 400 (.go pG) [] ((aN (kJ false i) (jT d) 102 [] []).hint [false])) =
 some (Cf.at (Ex.exit 2),[],[decide (i<(17:Int))=false,i=i,d=d]):=by kernel_rfl
def Lg:List (Nat × SV):=[(2,.ptr 100 true 0)]
def Lf (num:List Int):List (Nat × SB):=[(100,.own (cQ .i64 17 num) 190)]
theorem aPp (xs d num:List Int) (i:Int) :
 gD 100 (aC 100 (gF xs)) [] Lg (Lf num) 101 [] [] (cA Γl (aC 100 (gF xs)) 100 Tryz.f173.ntmps [3,7] 100 400 (.at (.exit 2)) Su ((aN (kJ true i) (jT d) 102 [] []).hint [true])) =
 sh (0:Int) fun z0=>
 some (Cf.at Ex.ret,[],[decide (d.getD (0:Nat) z0>=(251:Int))=true,z0<=(16:Int),d.length=d.length,(16:Int)=(16:Int),d=d,z0<=(15:Int),d.length=d.length,(15:Int)=(15:Int),d=d,z0<=(14:Int),d.length=d.length,(14:Int)=(14:Int),d=d,z0<=(13:Int),d.length=d.length,(13:Int)=(13:Int),d=d,z0<=(12:Int),d.length=d.length,(12:Int)=(12:Int),d=d,z0<=(11:Int),d.length=d.length,(11:Int)=(11:Int),d=d,z0<=(10:Int),d.length=d.length,(10:Int)=(10:Int),d=d,z0<=(9:Int),d.length=d.length,(9:Int)=(9:Int),d=d,z0<=(8:Int),d.length=d.length,(8:Int)=(8:Int),d=d,z0<=(7:Int),d.length=d.length,(7:Int)=(7:Int),d=d,z0<=(6:Int),d.length=d.length,(6:Int)=(6:Int),d=d,z0<=(5:Int),d.length=d.length,(5:Int)=(5:Int),d=d,z0<=(4:Int),d.length=d.length,(4:Int)=(4:Int),d=d,z0<=(3:Int),d.length=d.length,(3:Int)=(3:Int),d=d,z0<=(2:Int),d.length=d.length,(2:Int)=(2:Int),d=d,z0<=(1:Int),d.length=d.length,(1:Int)=(1:Int),d=d,z0<=z0,d.length=d.length,z0=z0,d=d,[IntKind.i64.wrap (d.getD (0:Nat) z0-(251:Int)),z0,z0,z0,z0,z0,z0,z0,z0,z0,z0,z0,z0,z0,z0,z0,z0]=[num.getD 0 z0,num.getD 1 z0,num.getD 2 z0,num.getD 3 z0,num.getD 4 z0,num.getD 5 z0,num.getD 6 z0,num.getD 7 z0,num.getD 8 z0,num.getD 9 z0,num.getD 10 z0,num.getD 11 z0,num.getD 12 z0,num.getD 13 z0,num.getD 14 z0,num.getD 15 z0,num.getD 16 z0]]):=by kernel_rfl
theorem aPq (xs d num:List Int) (i:Int) :
 gD 100 (aC 100 (gF xs)) [] Lg (Lf num) 101 [] [] (cA Γl (aC 100 (gF xs)) 100 Tryz.f173.ntmps [3,7] 100 400 (.at (.exit 2)) Su ((aN (kJ true i) (jT d) 102 [] []).hint [false])) =
 sh (0:Int) fun z0=>
 some (Cf.at Ex.ret,[],[decide (d.getD (0:Nat) z0>=(251:Int))=false,z0<=(16:Int),d.length=d.length,(16:Int)=(16:Int),d=d,z0<=(15:Int),d.length=d.length,(15:Int)=(15:Int),d=d,z0<=(14:Int),d.length=d.length,(14:Int)=(14:Int),d=d,z0<=(13:Int),d.length=d.length,(13:Int)=(13:Int),d=d,z0<=(12:Int),d.length=d.length,(12:Int)=(12:Int),d=d,z0<=(11:Int),d.length=d.length,(11:Int)=(11:Int),d=d,z0<=(10:Int),d.length=d.length,(10:Int)=(10:Int),d=d,z0<=(9:Int),d.length=d.length,(9:Int)=(9:Int),d=d,z0<=(8:Int),d.length=d.length,(8:Int)=(8:Int),d=d,z0<=(7:Int),d.length=d.length,(7:Int)=(7:Int),d=d,z0<=(6:Int),d.length=d.length,(6:Int)=(6:Int),d=d,z0<=(5:Int),d.length=d.length,(5:Int)=(5:Int),d=d,z0<=(4:Int),d.length=d.length,(4:Int)=(4:Int),d=d,z0<=(3:Int),d.length=d.length,(3:Int)=(3:Int),d=d,z0<=(2:Int),d.length=d.length,(2:Int)=(2:Int),d=d,z0<=(1:Int),d.length=d.length,(1:Int)=(1:Int),d=d,z0<=z0,d.length=d.length,z0=z0,d=d,[d.getD (0:Nat) z0,d.getD (1:Nat) z0,d.getD (2:Nat) z0,d.getD (3:Nat) z0,d.getD (4:Nat) z0,d.getD (5:Nat) z0,d.getD (6:Nat) z0,d.getD (7:Nat) z0,d.getD (8:Nat) z0,d.getD (9:Nat) z0,d.getD (10:Nat) z0,d.getD (11:Nat) z0,d.getD (12:Nat) z0,d.getD (13:Nat) z0,d.getD (14:Nat) z0,d.getD (15:Nat) z0,d.getD (16:Nat) z0]=[num.getD 0 z0,num.getD 1 z0,num.getD 2 z0,num.getD 3 z0,num.getD 4 z0,num.getD 5 z0,num.getD 6 z0,num.getD 7 z0,num.getD 8 z0,num.getD 9 z0,num.getD 10 z0,num.getD 11 z0,num.getD 12 z0,num.getD 13 z0,num.getD 14 z0,num.getD 15 z0,num.getD 16 z0]]):=by kernel_rfl
theorem aWz (xs d num:List Int) (i:Int) :
 gD 100 (aC 100 (gF xs)) [] Lg (Lf num) 101 [] [] (cA Γl (aC 100 (gF xs)) 100 Tryz.f173.ntmps [3,7] 100 400 (.at (.exit 2)) Su ((aN (kJ false i) (jT d) 102 [] []).hint [false])) =
 sh (0:Int) fun z0=>
 some (Cf.at Ex.ret,[],[z0<=(16:Int),d.length=d.length,(16:Int)=(16:Int),d=d,z0<=(15:Int),d.length=d.length,(15:Int)=(15:Int),d=d,z0<=(14:Int),d.length=d.length,(14:Int)=(14:Int),d=d,z0<=(13:Int),d.length=d.length,(13:Int)=(13:Int),d=d,z0<=(12:Int),d.length=d.length,(12:Int)=(12:Int),d=d,z0<=(11:Int),d.length=d.length,(11:Int)=(11:Int),d=d,z0<=(10:Int),d.length=d.length,(10:Int)=(10:Int),d=d,z0<=(9:Int),d.length=d.length,(9:Int)=(9:Int),d=d,z0<=(8:Int),d.length=d.length,(8:Int)=(8:Int),d=d,z0<=(7:Int),d.length=d.length,(7:Int)=(7:Int),d=d,z0<=(6:Int),d.length=d.length,(6:Int)=(6:Int),d=d,z0<=(5:Int),d.length=d.length,(5:Int)=(5:Int),d=d,z0<=(4:Int),d.length=d.length,(4:Int)=(4:Int),d=d,z0<=(3:Int),d.length=d.length,(3:Int)=(3:Int),d=d,z0<=(2:Int),d.length=d.length,(2:Int)=(2:Int),d=d,z0<=(1:Int),d.length=d.length,(1:Int)=(1:Int),d=d,z0<=z0,d.length=d.length,z0=z0,d=d,[d.getD (0:Nat) z0,d.getD (1:Nat) z0,d.getD (2:Nat) z0,d.getD (3:Nat) z0,d.getD (4:Nat) z0,d.getD (5:Nat) z0,d.getD (6:Nat) z0,d.getD (7:Nat) z0,d.getD (8:Nat) z0,d.getD (9:Nat) z0,d.getD (10:Nat) z0,d.getD (11:Nat) z0,d.getD (12:Nat) z0,d.getD (13:Nat) z0,d.getD (14:Nat) z0,d.getD (15:Nat) z0,d.getD (16:Nat) z0]=[num.getD 0 z0,num.getD 1 z0,num.getD 2 z0,num.getD 3 z0,num.getD 4 z0,num.getD 5 z0,num.getD 6 z0,num.getD 7 z0,num.getD 8 z0,num.getD 9 z0,num.getD 10 z0,num.getD 11 z0,num.getD 12 z0,num.getD 13 z0,num.getD 14 z0,num.getD 15 z0,num.getD 16 z0]]):=by kernel_rfl
theorem aWy (xs num:List Int) :
 rZ Γl (gF xs) 100 100 Tryz.f173 (cA Γl (aC 100 (gF xs)) 100 Tryz.f173.ntmps [3,7] 100 400 (.at .ret) [] ((aN Lg (Lf num) 101 [] []).hint [])) =
 some {val:=.agg (cQ .i64 17 num)}:=by kernel_rfl
namespace M
theorem vK {m:Int} (hm:0<=m) {xs:List Int} (h:Ds m xs):0<=V xs:=hX fun i _=>(h.get hm i).1
theorem aGk (a b:Int) (h:a=b-(b/1361129467683753853853498429727072845824)*p):a%p=b%p:=by
 rw [h,Int.mul_comm,Int.sub_mul_emod_self_left]
theorem WW {d:List Int} (hl:d.length<=33) (hd:Ds 255 d) :
 Ds 255 (mW d)/\(mW d).length<=19/\V (mW d)%p=V d%p/\(tY d=true->V (mW d)<V d)/\(tY d=false->V (mW d)<1361129467683753853853498429727072845824):=by
 obtain ⟨e1,e2⟩:=aTg hl hd
 have jU:=Mr hd (d.length-16)
 have eV:V (mW d)=V (eC d (d.length-16)):=Gj _ (by omega) jU
 have h0:=vK (by omega) hd
 have hlen:(mW d).length<=17+2:=by
  have:=nI (eC d (d.length-16)) 2 (by omega) jU (by
   rw [fY]
   have h3:=Hs (fun i=>(eC d (d.length-16)).getD i 0/256) (fun _=>0) 0 0
   have h4:V (eC d (d.length-16))<=1530*256^17:=by
    have:∀ n,vs (fun i=>(eC d (d.length-16)).getD i 0) n<=1530*256^n:=by
     intro n
     induction n with
     | zero=>simp [vs]
     | succ n ih=>
       rw [iQ,Int.pow_succ]
       have a:=jU.get (by omega) n
       have b:256^n*(eC d (d.length-16)).getD n 0<=256^n*1530:=Int.mul_le_mul_of_nonneg_left a.2 (Int.le_of_lt (Int.pow_pos (by omega)))
       have c:(0:Int)<256^n:=Int.pow_pos (by omega)
       omega
    have:=this (eC d (d.length-16)).length
    rwa [fY] at this
   have:(1530:Int)*256^17<256^(17+2):=by decide
   omega)
  rwa [fY] at this
 refine ⟨Dc _,hlen,?_,fun hb=>?_,fun hb=>?_⟩
 .refine aGk _ _ ?_
  rw [eV,e1]
  unfold p
  omega
 .have:=e2.1 hb
  rw [eV,e1]
  omega
 .have:¬ 0<V d/1361129467683753853853498429727072845824:=fun q=>by
   have:=e2.2 q
   unfold tY at hb
   rw [hb] at this
   cases this
  rw [eV,e1]
  omega
end M
theorem VA (xs:List Int) (hl:xs.length<=100) (hd:Ds 1099511627776 xs) (hc:(M.carried xs).length<=33) :
 aD Tryz.prog Γl 173 (wL xs.length) (gF xs) 100 100 { val:=.agg (cQ .i64 17 (M.num (M.V xs%M.p))) }:=by
 refine bU FR FT Tryz.func173 (by kernel_rfl) rfl (Nat.le_of_ble_eq_true (by kernel_rfl)) rfl [] ?_
 intro w0 Mx V0 Q hb H
 have aM:=FR
 have aE:=FT
 have aCd:∀ n:Int,[(M.num n).getD 0 0,(M.num n).getD 1 0,(M.num n).getD 2 0,(M.num n).getD 3 0,(M.num n).getD 4 0,(M.num n).getD 5 0,(M.num n).getD 6 0,(M.num n).getD 7 0,(M.num n).getD 8 0,(M.num n).getD 9 0,(M.num n).getD 10 0,(M.num n).getD 11 0,(M.num n).getD 12 0,(M.num n).getD 13 0,(M.num n).getD 14 0,(M.num n).getD 15 0,(M.num n).getD 16 0]=M.num n:=fun n=>by
  have:=xT (M.jX n)
  rw [<- this];rfl
 refine G.gD aM aE mix hb [] (aXe xs (M.carried xs) xs.length) (aA (by simp only [aO,and_true];exact ⟨hl,hd⟩)) ?_
 refine G.loop (fun r s=>∃ (b:Bool) (d:List Int),Ds 255 d/\d.length<=33/\M.V d%M.p=M.V xs%M.p/\(b=false->M.V d<1361129467683753853853498429727072845824)/\r=(if b then (M.V d).toNat+1 else 0)/\s=aN (Ea b) (jT d) 102 [] []) (r0:=(M.V (M.carried xs)).toNat+1)
  ⟨true,_,M.Dc xs,hc,by rw [M.Gj xs (by omega) hd],fun h=>by (cases h),rfl,rfl⟩ ?_
 rintro r s ⟨b,d,Zy,NY,hd3,hd4,rfl,rfl⟩
 have v0:=M.vK (by omega) Zy
 cases b with
 | true=>
   obtain ⟨f1,f2,f3,f4,f5⟩:=M.WW NY Zy
   have v1:=M.vK (by omega) f1
   cases hf:M.tY d with
   | true=>
     have:=f4 hf
     refine G.eK aM aE mix hb [] (aPt xs d (M.mW d)) (aA (by simp only [aO,and_true,true_and];exact ⟨NY,Zy,hf⟩)) ((M.V (M.mW d)).toNat+1) (by simp;omega) ⟨true,_,f1,by omega,f3.trans hd3,fun h=>by (cases h),rfl,rfl⟩
   | false=>
     refine G.eK aM aE mix hb [] (aPu xs d (M.mW d)) (aA (by simp only [aO,and_true,true_and];exact ⟨NY,Zy,hf⟩)) 0 (by simp) ⟨false,_,f1,by omega,f3.trans hd3,fun _=>f5 hf,rfl,rfl⟩
 | false=>
   have cK:=hd4 rfl
   refine G.gD aM aE mix hb [] (aXd xs d) (aA (by simp [aO])) (G.leave (by simp) ?_)
   refine G.gD aM aE mix hb [] (aXc xs d 1) (aA (by simp [aO])) ?_
   refine G.loop (fun r s=>∃ k:Nat,k<=16/\r=16-k/\s=aN (kJ (M.Ar d k) ((1+k:Nat):Int)) (jT d) 102 [] []) (r0:=16) ⟨0,by omega,rfl,rfl⟩ ?_
   rintro r s ⟨k,hk,rfl,rfl⟩
   have tO:IntKind.i64.wrap (((1+k:Nat):Int)+1)=((1+(k+1):Nat):Int):=by rw [IntWalk.i64_in _ (by omega)];omega
   have fin:∀ n:Int,n=M.V xs%M.p->G Tryz.prog Γl w0 Mx (aC 100 (gF xs)) Tryz.f173.ntmps 100 V0 (.at .ret) [] (aN Lg (Lf (M.num n)) 101 [] []) Q:=fun n hn=>by
    subst hn
    exact G.fin aM aE mix [] H (aWy xs _) (by simp) rfl rfl rfl
   by_cases aYe:k=16
   .subst aYe
    have ha0:=Zy.get (by omega) 0
    cases hh:M.Ar d 16 with
    | true=>
      refine G.gD aM aE mix hb [false] (aPm xs d _) (aA (by simp [aO])) (G.leave (by simp) ?_)
      by_cases h0:251<=d.getD 0 0
      .refine G.gD aM aE mix hb [true] (aPp xs d (M.num (M.V xs%M.p)) _) (aA ?_) (fin _ rfl)
       have ew:IntKind.i64.wrap (d.getD 0 0-251)=d.getD 0 0-251:=IntWalk.i64_in _ (by omega)
       have en:M.num (M.V xs%M.p)=(d.getD 0 0-251)::List.replicate 16 0:=by
        rw [<- hd3,M.aHq Zy cK hh h0,M.Xo (by omega) (by omega)]
       simp only [aO,aCd,ew,and_true,true_and]
       refine ⟨by simpa using h0,by omega,by omega,by omega,by omega,by omega,by omega,by omega,by omega,by omega,by omega,by omega,by omega,by omega,by omega,by omega,by omega,by omega,?_⟩
       rw [en];rfl
      .refine G.gD aM aE mix hb [false] (aPq xs d (M.num (M.V xs%M.p)) _) (aA ?_) (fin _ rfl)
       have hp:=M.aBl Zy cK (fun q=>h0 q.2)
       have en:M.num (M.V xs%M.p)=iH 17 d:=by
        rw [M.aAx Zy,<- hd3,Int.emod_eq_of_lt v0 hp]
       simp only [aO,aCd,and_true,true_and]
       refine ⟨decide_eq_false (by omega),by omega,by omega,by omega,by omega,by omega,by omega,by omega,by omega,by omega,by omega,by omega,by omega,by omega,by omega,by omega,by omega,by omega,?_⟩
       rw [en];rfl
    | false=>
      refine G.gD aM aE mix hb [false] (aPn xs d _) (aA (by simp [aO])) (G.leave (by simp) ?_)
      refine G.gD aM aE mix hb [false] (aWz xs d (M.num (M.V xs%M.p)) _) (aA ?_) (fin _ rfl)
      have hp:=M.aBl Zy cK (fun q=>by rw [hh] at q;cases q.1)
      have en:M.num (M.V xs%M.p)=iH 17 d:=by
       rw [M.aAx Zy,<- hd3,Int.emod_eq_of_lt v0 hp]
      simp only [aO,aCd,and_true,true_and]
      refine ⟨by omega,by omega,by omega,by omega,by omega,by omega,by omega,by omega,by omega,by omega,by omega,by omega,by omega,by omega,by omega,by omega,by omega,?_⟩
      rw [en];rfl
   .cases hh:M.Ar d k with
    | true=>
      by_cases h15:1+k=16
      .have aYf:k=15:=by omega
       subst aYf
       refine G.eK aM aE mix hb [true,true] (aXa xs d ((1+15:Nat):Int) ((1+(15+1):Nat):Int) (M.Ar d (15+1))) (aA ?_) (16-(15+1)) (by omega) ⟨15+1,by omega,rfl,rfl⟩
       have e:=M.rS d 15
       rw [hh,Bool.true_and,if_pos rfl] at e
       simp only [aO,e,Int.toNat_natCast,and_true,true_and]
       exact ⟨by omega,by decide,by decide,by decide⟩
      .refine G.eK aM aE mix hb [true,false] (aXb xs d ((1+k:Nat):Int) ((1+(k+1):Nat):Int) (M.Ar d (k+1))) (aA ?_) (16-(k+1)) (by omega) ⟨k+1,by omega,rfl,rfl⟩
       simp only [aO,tO,M.rS,hh,if_neg h15,Int.toNat_natCast,Bool.true_and,and_true,true_and]
       exact ⟨by omega,by simpa using by omega,by simpa using by omega⟩
    | false=>
      by_cases h15:1+k=16
      .refine G.eK aM aE mix hb [true,true] (aPr xs d ((1+k:Nat):Int) ((1+(k+1):Nat):Int)) (aA ?_) (16-(k+1)) (by omega) ⟨k+1,by omega,rfl,by rw [M.rS,hh];rfl⟩
       simp only [aO,tO,and_true]
       exact ⟨by rw [h15];decide,by simpa using by omega⟩
      .refine G.eK aM aE mix hb [true,false] (aPs xs d ((1+k:Nat):Int) ((1+(k+1):Nat):Int)) (aA ?_) (16-(k+1)) (by omega) ⟨k+1,by omega,rfl,by rw [M.rS,hh];rfl⟩
       simp only [aO,tO,and_true]
       exact ⟨by simpa using by omega,by simpa using by omega⟩
end Go.Proofs.YtaibhjpgbckbkaaGreatDoor.Sx
