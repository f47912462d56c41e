/- (*Int).Add in place, slow.laid, as summaries. -/
import Derived.Test.YtnodfocobmghiaaGreatDoorQI
open Go
set_option maxRecDepth 100000
namespace Go.Proofs.YtnodfocobmghiaaGreatDoor.Sx
namespace M
theorem aSi {N:Int} (h0:w0 N=0) (h1:w1 N=0) (h2:w2 N=0):ln N=0:=by unfold ln;rw [h0,h1,h2];decide
theorem aBp {N:Int} (h0:w0 N≠0) (h1:w1 N=0) (h2:w2 N=0):ln N=1:=by unfold ln;rw [h1,h2];simp only [nl,if_true,if_neg h0]
theorem Vc {N:Int} (h1:w1 N≠0) (h2:w2 N=0):ln N=2:=by unfold ln;rw [h2];simp only [nl,if_true,if_neg h1]
theorem Na {N:Int} (h2:w2 N≠0):ln N=3:=by unfold ln;simp only [nl,if_neg h2]
end M
theorem AP (h h2:List Bool):aF Tryz.prog (env (AR h h2) 22) 70 (aJ (env (AR h h2) 22) Tryz.f70 true [] 400):=aM (bL _ 22) (bS _ (XE h h2) 22) mix Tryz.func70 (by kernel_rfl) true [] 400
def wN (N:Int) (cap:Nat):List SV:=wc (M.w0 N::M.w1 N::M.w2 N::List.replicate (cap-3) 0)
def faE (N:Int) (cap:Nat) (Y:SV) (ys:List SV):bK:={ val:=.ptr 61 true 0,wr:=[(61,.own [.bool true false,.aG 64 false 0 (M.ln N) cap] 102),(64,.own (wN N cap) 142),(63,.own [.bool true false,Y] 102),(65,.own ys 142)] }
theorem FM {n m ca:Nat} {xs ys:List SV} {e:bK} (h:aE Tryz.prog Γv 70 xN (fun l=>look l (NZ (.aG 64 true 0 n ca) (.aG 65 true 0 m 6) xs ys)) 100 100 e):aE Tryz.prog Γv 70 xN (fun l=>look l (NZ (.aG 64 false 0 n ca) (.aG 65 false 0 m 6) xs ys)) 100 100 e:=
 aE.reL (L:=NZ (.aG 64 true 0 n ca) (.aG 65 true 0 m 6) xs ys) (L':=NZ (.aG 64 false 0 n ca) (.aG 65 false 0 m 6) xs ys) h ⟨rfl,⟨rfl,fun _=>rfl⟩,rfl,⟨rfl,fun _=>rfl⟩,rfl,bW _,rfl,bW _,rfl,bW _,rfl,bW _,trivial⟩ (fun _=>rfl)
theorem kL {h hh:List Bool} {la ly k cap:Nat} {xs ys cells:List SV} {N:Int} {ob:List Prop} (e:jC h hh (.aG 64 true 0 la cap) (.aG 65 true 0 ly 6) xs ys=some { bO:=ob,val:=.ptr 61 true 0,wr:=[(61,.own [.bool true false,.aG 64 true 0 k cap] 102),(64,.own cells 142)] }) (ho:∀ q∈ob,q)
 (hk:k=M.ln N) (hc:∀ V,aI V (wN N cap)=aI V cells):aE Tryz.prog Γv 70 xN (fun l=>look l (NZ (.aG 64 false 0 la cap) (.aG 65 false 0 ly 6) xs ys)) 100 100 (faE N cap (.aG 65 false 0 ly 6) ys):=by
 subst hk
 exact FM (((((AP h hh).call e ho).bC 63 _ rfl (by decide)).bC 65 _ rfl (by decide)).re rfl (fun _=>rfl) trivial ⟨rfl,⟨rfl,fun _=>rfl⟩,rfl,⟨rfl,hc⟩,rfl,⟨rfl,fun _=>rfl⟩,rfl,⟨rfl,fun _=>rfl⟩,trivial⟩)
theorem aHh {h hh:List Bool} {la ly k cap:Nat} {xs ys:List SV} {N:Int} (e:jC h hh (.aG 64 true 0 la cap) (.aG 65 true 0 ly 6) xs ys=some { val:=.ptr 61 true 0,wr:=[(61,.own [.bool true false,.aG 64 true 0 k cap] 102)] })
 (hk:k=M.ln N) (hc:∀ V,aI V (wN N cap)=aI V xs):aE Tryz.prog Γv 70 xN (fun l=>look l (NZ (.aG 64 false 0 la cap) (.aG 65 false 0 ly 6) xs ys)) 100 100 (faE N cap (.aG 65 false 0 ly 6) ys):=by
 subst hk
 exact FM ((((((AP h hh).call e (by simp)).bC 64 _ rfl (by decide)).bC 63 _ rfl (by decide)).bC 65 _ rfl (by decide)).re rfl (fun _=>rfl) trivial ⟨rfl,⟨rfl,fun _=>rfl⟩,rfl,⟨rfl,hc⟩,rfl,⟨rfl,fun _=>rfl⟩,rfl,⟨rfl,fun _=>rfl⟩,trivial⟩)
theorem jU {N:Int} {cap:Nat} (h:6<=cap) {a b c:Int} (h0:M.w0 N=a) (h1:M.w1 N=b) (h2:M.w2 N=c):wN N cap = .int false .u64 a :: .int false .u64 b :: .int false .u64 c :: .int false .u64 0::wc (List.replicate (cap-4) 0):=by
 obtain ⟨n,rfl⟩:∃ n,cap=n+4:=⟨cap-4,by omega⟩
 subst h0 h1 h2
 rfl
open M in
theorem WS {cap:Nat} (kA:cap=6\/cap=7\/cap=8\/cap=9) {la ly:Nat} {x0 x1 x2 y0 y1:Int} (fU:U x0) (fO:U x1) (mJ:0<=x2/\x2<4) (eU:U y0) (gJ:U y1) (hla:la=nl [x0,x1,x2]) (hly:ly=nl [y0,y1]) :
 aE Tryz.prog Γv 70 xN (fun l=>look l (NZ (.aG 64 false 0 la cap) (.aG 65 false 0 ly 6) (wc (x0::x1::x2::List.replicate (cap-3) 0)) (wc [y0,y1,0,0,0,0]))) 100 100 (faE (n3 x0 x1 x2+(y0+18446744073709551616*y1)) cap (.aG 65 false 0 ly 6) (wc [y0,y1,0,0,0,0])):=by
 have h6:6<=cap:=by omega
 obtain ⟨ux0,vx0⟩:=fU
 obtain ⟨ux1,vx1⟩:=fO
 obtain ⟨uy0,vy0⟩:=eU
 obtain ⟨uy1,vy1⟩:=gJ
 obtain ⟨N,hN⟩:∃ N,N=n3 x0 x1 x2+(y0+18446744073709551616*y1):=⟨_,rfl⟩
 have Zp:=hN
 unfold n3 at Zp
 rw [<- hN]
 rcases nl3 x0 x1 x2 with ⟨h,rfl,rfl,rfl⟩ | ⟨h,n0,rfl,rfl⟩ | ⟨h,n1,rfl⟩ | ⟨h,n2⟩ <;> rcases NL y0 y1 with ⟨h',rfl,rfl⟩ | ⟨h',m0,rfl⟩ | ⟨h',m1⟩ <;> rw [h] at hla <;> rw [h'] at hly <;> subst hla <;> subst hly
 .exact aHh (aHg kA 0) (aSi (by unfold w0;omega) (by unfold w1;omega) (by unfold w2;omega)).symm (fun _=>by rw [jU h6 (a:=0) (b:=0) (c:=0) (by unfold w0;omega) (by unfold w1;omega) (by unfold w2;omega) ] <;> (obtain ⟨n,rfl⟩:∃ n,cap=n+4:=⟨cap-4,by omega⟩;rfl))
 .exact kL (aHf kA y0) (by simp) (aBp (by unfold w0;omega) (by unfold w1;omega) (by unfold w2;omega)).symm (fun _=>by rw [jU h6 (a:=y0) (b:=0) (c:=0) (by unfold w0;omega) (by unfold w1;omega) (by unfold w2;omega) ] <;> (obtain ⟨n,rfl⟩:∃ n,cap=n+4:=⟨cap-4,by omega⟩;rfl))
 .exact kL (aHe kA y0 y1) (by simp) (Vc (by unfold w1;omega) (by unfold w2;omega)).symm (fun _=>by rw [jU h6 (a:=y0) (b:=y1) (c:=0) (by unfold w0;omega) (by unfold w1;omega) (by unfold w2;omega) ] <;> (obtain ⟨n,rfl⟩:∃ n,cap=n+4:=⟨cap-4,by omega⟩;rfl))
 .exact kL (aHd kA x0) (by simp) (aBp (by unfold w0;omega) (by unfold w1;omega) (by unfold w2;omega)).symm (fun _=>by rw [jU h6 (a:=x0) (b:=0) (c:=0) (by unfold w0;omega) (by unfold w1;omega) (by unfold w2;omega) ] <;> (obtain ⟨n,rfl⟩:∃ n,cap=n+4:=⟨cap-4,by omega⟩;rfl))
 .by_cases Ck:uh (x0+y0+0)=0
  .have Cd:w0 N=ul (x0+y0+0):=by unfold w0 ul;omega
   have vF:w1 N=uh (x0+y0+0):=by unfold w1;unfold ul uh at *;omega
   have rD:w2 N=0:=by unfold w2;unfold ul uh at *;omega
   refine kL (aHc kA x0 y0) (aB ?_) ?_ (fun _=>by rw [jU h6 Cd vF rD] <;> rfl)
   .simp only [sh,bZ,beq_eq_false_iff_ne,beq_iff_eq,bne_iff_ne,ne_eq,and_true,true_and]
    unfold U K ul uh at *
    omega
   .symm
    refine aBp (by rw [Cd] <;> first | decide | (unfold ul uh at *;omega) | (rw [bN];unfold ul uh at *;omega)) (by rw [vF] <;> first | decide | (unfold ul uh at *;omega) | (rw [bN];unfold ul uh at *;omega)) (by rw [rD] <;> first | decide | (unfold ul uh at *;omega) | (rw [bN];unfold ul uh at *;omega))
  .have Cd:w0 N=ul (x0+y0+0):=by unfold w0 ul;omega
   have vF:w1 N=uh (x0+y0+0):=by unfold w1;unfold ul uh at *;omega
   have rD:w2 N=0:=by unfold w2;unfold ul uh at *;omega
   refine kL (aHb kA x0 y0) (aB ?_) ?_ (fun _=>by rw [jU h6 Cd vF rD] <;> rfl)
   .simp only [sh,bZ,beq_eq_false_iff_ne,beq_iff_eq,bne_iff_ne,ne_eq,and_true,true_and]
    unfold U K ul uh at *
    omega
   .symm
    refine Vc (by rw [vF] <;> first | decide | (unfold ul uh at *;omega) | (rw [bN];unfold ul uh at *;omega)) (by rw [rD] <;> first | decide | (unfold ul uh at *;omega) | (rw [bN];unfold ul uh at *;omega))
 .by_cases Ck:uh (y1+uh (y0+x0+0)+0)=0
  .have Cd:w0 N=ul (y0+x0+0):=by unfold w0 ul;omega
   have vF:w1 N=ul (y1+uh (y0+x0+0)+0):=by unfold w1;unfold ul uh at *;omega
   have rD:w2 N=0:=by unfold w2;unfold ul uh at *;omega
   refine kL (aHa kA x0 y0 y1) (aB ?_) ?_ (fun _=>by rw [jU h6 Cd vF rD] <;> rfl)
   .simp only [sh,bZ,beq_eq_false_iff_ne,beq_iff_eq,bne_iff_ne,ne_eq,and_true,true_and]
    unfold U K ul uh at *
    omega
   .symm
    refine Vc (by rw [vF] <;> first | decide | (unfold ul uh at *;omega) | (rw [bN];unfold ul uh at *;omega)) (by rw [rD] <;> first | decide | (unfold ul uh at *;omega) | (rw [bN];unfold ul uh at *;omega))
  .have Cd:w0 N=ul (y0+x0+0):=by unfold w0 ul;omega
   have vF:w1 N=ul (y1+uh (y0+x0+0)+0):=by unfold w1;unfold ul uh at *;omega
   have rD:w2 N=1:=by unfold w2;unfold ul uh at *;omega
   refine kL (aGz kA x0 y0 y1) (aB ?_) ?_ (fun _=>by rw [jU h6 Cd vF rD] <;> rfl)
   .simp only [sh,bZ,beq_eq_false_iff_ne,beq_iff_eq,bne_iff_ne,ne_eq,and_true,true_and]
    unfold U K ul uh at *
    omega
   .symm
    refine Na (by rw [rD] <;> first | decide | (unfold ul uh at *;omega) | (rw [bN];unfold ul uh at *;omega))
 .exact kL (aGy kA x0 x1) (by simp) (Vc (by unfold w1;omega) (by unfold w2;omega)).symm (fun _=>by rw [jU h6 (a:=x0) (b:=x1) (c:=0) (by unfold w0;omega) (by unfold w1;omega) (by unfold w2;omega) ] <;> (obtain ⟨n,rfl⟩:∃ n,cap=n+4:=⟨cap-4,by omega⟩;rfl))
 .by_cases Ck:uh (x1+uh (x0+y0+0)+0)=0
  .have Cd:w0 N=ul (x0+y0+0):=by unfold w0 ul;omega
   have vF:w1 N=ul (x1+uh (x0+y0+0)+0):=by unfold w1;unfold ul uh at *;omega
   have rD:w2 N=0:=by unfold w2;unfold ul uh at *;omega
   refine kL (aGx kA x0 x1 y0) (aB ?_) ?_ (fun _=>by rw [jU h6 Cd vF rD] <;> rfl)
   .simp only [sh,bZ,beq_eq_false_iff_ne,beq_iff_eq,bne_iff_ne,ne_eq,and_true,true_and]
    unfold U K ul uh at *
    omega
   .symm
    refine Vc (by rw [vF] <;> first | decide | (unfold ul uh at *;omega) | (rw [bN];unfold ul uh at *;omega)) (by rw [rD] <;> first | decide | (unfold ul uh at *;omega) | (rw [bN];unfold ul uh at *;omega))
  .have Cd:w0 N=ul (x0+y0+0):=by unfold w0 ul;omega
   have vF:w1 N=ul (x1+uh (x0+y0+0)+0):=by unfold w1;unfold ul uh at *;omega
   have rD:w2 N=1:=by unfold w2;unfold ul uh at *;omega
   refine kL (aGw kA x0 x1 y0) (aB ?_) ?_ (fun _=>by rw [jU h6 Cd vF rD] <;> rfl)
   .simp only [sh,bZ,beq_eq_false_iff_ne,beq_iff_eq,bne_iff_ne,ne_eq,and_true,true_and]
    unfold U K ul uh at *
    omega
   .symm
    refine Na (by rw [rD] <;> first | decide | (unfold ul uh at *;omega) | (rw [bN];unfold ul uh at *;omega))
 .by_cases Ck:uh (x1+y1+uh (x0+y0+0))=0
  .have Cd:w0 N=ul (x0+y0+0):=by unfold w0 ul;omega
   have vF:w1 N=ul (x1+y1+uh (x0+y0+0)):=by unfold w1;unfold ul uh at *;omega
   have rD:w2 N=uh (x1+y1+uh (x0+y0+0)):=by unfold w2;unfold ul uh at *;omega
   refine kL (aGv kA x0 x1 y0 y1) (aB ?_) ?_ (fun _=>by rw [jU h6 Cd vF rD] <;> rfl)
   .simp only [sh,bZ,beq_eq_false_iff_ne,beq_iff_eq,bne_iff_ne,ne_eq,and_true,true_and]
    unfold U K ul uh at *
    omega
   .symm
    refine Vc (by rw [vF] <;> first | decide | (unfold ul uh at *;omega) | (rw [bN];unfold ul uh at *;omega)) (by rw [rD] <;> first | decide | (unfold ul uh at *;omega) | (rw [bN];unfold ul uh at *;omega))
  .have Cd:w0 N=ul (x0+y0+0):=by unfold w0 ul;omega
   have vF:w1 N=ul (x1+y1+uh (x0+y0+0)):=by unfold w1;unfold ul uh at *;omega
   have rD:w2 N=uh (x1+y1+uh (x0+y0+0)):=by unfold w2;unfold ul uh at *;omega
   refine kL (aGu kA x0 x1 y0 y1) (aB ?_) ?_ (fun _=>by rw [jU h6 Cd vF rD] <;> rfl)
   .simp only [sh,bZ,beq_eq_false_iff_ne,beq_iff_eq,bne_iff_ne,ne_eq,and_true,true_and]
    unfold U K ul uh at *
    omega
   .symm
    refine Na (by rw [rD] <;> first | decide | (unfold ul uh at *;omega) | (rw [bN];unfold ul uh at *;omega))
 .exact kL (aGt kA x0 x1 x2) (by simp) (Na (by unfold w2;omega)).symm (fun _=>by rw [jU h6 (a:=x0) (b:=x1) (c:=x2) (by unfold w0;omega) (by unfold w1;omega) (by unfold w2;omega) ] <;> (obtain ⟨n,rfl⟩:∃ n,cap=n+4:=⟨cap-4,by omega⟩;rfl))
 .by_cases Ck:uh (x1+uh (x0+y0+0)+0)=0
  .have Cd:w0 N=ul (x0+y0+0):=by unfold w0 ul;omega
   have vF:w1 N=ul (x1+uh (x0+y0+0)+0):=by unfold w1;unfold ul uh at *;omega
   have rD:w2 N=x2:=by unfold w2;unfold ul uh at *;omega
   refine kL (aGs kA x0 x1 x2 y0) (aB ?_) ?_ (fun _=>by rw [jU h6 Cd vF rD] <;> rfl)
   .simp only [sh,bZ,beq_eq_false_iff_ne,beq_iff_eq,bne_iff_ne,ne_eq,and_true,true_and]
    unfold U K ul uh at *
    omega
   .symm
    refine Na (by rw [rD] <;> first | decide | (unfold ul uh at *;omega) | (rw [bN];unfold ul uh at *;omega))
  .have Cd:w0 N=ul (x0+y0+0):=by unfold w0 ul;omega
   have vF:w1 N=ul (x1+uh (x0+y0+0)+0):=by unfold w1;unfold ul uh at *;omega
   have rD:w2 N=IntKind.u64.wrap (x2+1):=by rw [bN];unfold w2;unfold ul uh at *;omega
   refine kL (WT kA x0 x1 x2 y0) (aB ?_) ?_ (fun _=>by rw [jU h6 Cd vF rD] <;> rfl)
   .simp only [sh,bZ,beq_eq_false_iff_ne,beq_iff_eq,bne_iff_ne,ne_eq,and_true,true_and,bN]
    unfold U K ul uh at *
    omega
   .symm
    refine Na (by rw [rD] <;> first | decide | (unfold ul uh at *;omega) | (rw [bN];unfold ul uh at *;omega))
 .have Cd:w0 N=ul (x0+y0+0):=by unfold w0 ul;omega
  have vF:w1 N=ul (x1+y1+uh (x0+y0+0)):=by unfold w1;unfold ul uh at *;omega
  have rD:w2 N=ul (x2+uh (x1+y1+uh (x0+y0+0))+0):=by unfold w2;unfold ul uh at *;omega
  refine kL (aGr kA x0 x1 x2 y0 y1) (aB ?_) ?_ (fun _=>by rw [jU h6 Cd vF rD] <;> rfl)
  .simp only [sh,bZ,beq_eq_false_iff_ne,beq_iff_eq,bne_iff_ne,ne_eq,and_true,true_and]
   unfold U K ul uh at *
   omega
  .symm
   refine Na (by rw [rD] <;> first | decide | (unfold ul uh at *;omega) | (rw [bN];unfold ul uh at *;omega))
namespace M
theorem rZ {x:Int} (h0:0<=x) (h:x<1000000):IntKind.i64.wrap x=x:=IntWalk.i64_in _ ⟨by omega,by omega⟩
theorem ZS {a:Int} {s:List Int} (hs:bX s):∀ i:Nat,i<=16 ->
 sc (num a) s i=(vs (fun j=>a/256^j%256) i+vs (fun j=>s.getD j 0) i)/256^i/\0<=sc (num a) s i/\sc (num a) s i<=1
 | 0,_=>by simp [sc,vs]
 | i+1,h=>by
   obtain ⟨e,h0,h1⟩:=ZS (a:=a) hs i (by omega)
   have hd:(num a).getD i 0=a/256^i%256:=Tc a (by omega)
   obtain ⟨hf0,hf1⟩:=hs.get i
   have hP:(0:Int)<256^i:=Int.pow_pos (by decide)
   have Zm:0<=a/256^i%256/\a/256^i%256<256:=⟨Int.emod_nonneg _ (by decide),Int.emod_lt_of_pos _ (by decide)⟩
   have hsc:sc (num a) s (i+1)=(sc (num a) s i+(a/256^i%256+s.getD i 0))/256:=by
    show IntKind.i64.wrap ((IntKind.i64.wrap (IntKind.i64.wrap (sc (num a) s i+(num a).getD i 0)+IntKind.i64.wrap (s.getD i 0))).tdiv 256)=_
    rw [hd,rZ (x:=sc (num a) s i+a/256^i%256) (by omega) (by omega),rZ (x:=s.getD i 0) (by omega) (by omega),rZ (x:=sc (num a) s i+a/256^i%256+s.getD i 0) (by omega) (by omega),Int.tdiv_eq_ediv_of_nonneg (by omega),rZ (by omega) (by omega),Int.add_assoc]
   refine ⟨?_,by rw [hsc];omega,by rw [hsc];omega⟩
   rw [hsc,xZ,xZ,Int.pow_succ]
   have e2:vs (fun j=>a/256^j%256) i+256^i*(a/256^i%256)+(vs (fun j=>s.getD j 0) i+256^i*s.getD i 0)=(vs (fun j=>a/256^j%256) i+vs (fun j=>s.getD j 0) i)+256^i*(a/256^i%256+s.getD i 0):=by
    rw [Int.mul_add];omega
   rw [e2,<- Int.ediv_ediv_of_nonneg (by omega),Int.add_mul_ediv_left _ _ (by omega),<- e]
theorem QU {a:Int} {s:List Int} (hs:bX s):Uw (num a) s=(List.range 16).map (nb (a+vs (fun j=>s.getD j 0) 16)):=by
 unfold Uw
 refine List.map_congr_left fun i hi=>?_
 have hi:i<16:=by simpa using hi
 obtain ⟨e,h0,h1⟩:=ZS (a:=a) hs i (by omega)
 have hd:(num a).getD i 0=a/256^i%256:=Tc a (by omega)
 obtain ⟨hf0,hf1⟩:=hs.get i
 have hP:(0:Int)<256^i:=Int.pow_pos (by decide)
 have Zm:0<=a/256^i%256/\a/256^i%256<256:=⟨Int.emod_nonneg _ (by decide),Int.emod_lt_of_pos _ (by decide)⟩
 rw [hd,rZ (x:=sc (num a) s i+a/256^i%256) (by omega) (by omega),rZ (x:=s.getD i 0) (by omega) (by omega),rZ (x:=sc (num a) s i+a/256^i%256+s.getD i 0) (by omega) (by omega),Int.tmod_eq_emod_of_nonneg (by omega),IntKind.wrap_u8,e]
 unfold nb
 have e1:=Aj (fun j=>s.getD j 0) (16-(i+1)) (i+1)
 rw [show i+1+(16-(i+1))=16 from by omega,xZ (fun j=>s.getD j 0) i] at e1
 have e3:vs (fun j=>a/256^j%256) i=a%256^i:=aDf a i
 have e4:a=a%256^i+256^i*(a/256^i):=(Int.emod_add_mul_ediv a _).symm
 generalize vs (fun j=>s.getD (i+1+j) 0) (16-(i+1))=R at e1
 generalize vs (fun j=>s.getD j 0) i=S at *
 generalize s.getD i 0=f at *
 rw [e3,e1,Int.pow_succ]
 generalize hP':(256:Int)^i=P at *
 generalize hQ:a/P=Q at *
 have e5:a+(S+P*f+P*256*R)=(a%P+S)+P*(Q+f+256*R):=by
  have:P*(Q+f+256*R)=P*Q+P*f+P*256*R:=by rw [Int.mul_add,Int.mul_add,Int.mul_assoc]
  omega
 rw [e5,Int.add_mul_ediv_left _ _ (by omega)]
 omega
theorem aWb (b0 b1 b2 b3 b4 b5 b6 b7 b8 b9 cV cU cT cY cX fW:Int) :
 V [b0,b1,b2,b3,b4,b5,b6,b7,b8,b9,cV,cU,cT,cY,cX,fW,1]=n3 (V [b0,b1,b2,b3,b4,b5,b6,b7]) (V [b8,b9,cV,cU,cT,cY,cX,fW]) 1:=by
 simp only [sD,Ag]
 unfold n3
 omega
theorem aLh (b0 b1 b2 b3 b4 b5 b6 b7 b8 b9 cV cU cT cY cX fW:Int) :
 V [b0,b1,b2,b3,b4,b5,b6,b7,b8,b9,cV,cU,cT,cY,cX,fW]=V [b0,b1,b2,b3,b4,b5,b6,b7]+18446744073709551616*V [b8,b9,cV,cU,cT,cY,cX,fW]:=by
 simp only [sD,Ag]
 omega
end M
def iB (X:SV):SB:=.own [.bool true false,X] 102
def aBm:SV:=.raw (.slice none 0 0)
def faW (m:Nat) (ys:List SV):List (Nat × SB):=[(63,iB (.aG 65 false 0 m 6)),(65,.own ys 142)]
def aKs (gR:Nat) (y0 y1:Int):bK:=match gR with
 | 0=>{ val:=.ptr 61 true 0,wr:=(61,iB aBm)::faW 0 (wc [y0,y1,0,0,0,0]) }
 | 1=>{ val:=.ptr 61 true 0,new:=[.own [.int false .u64 y0] 142],wr:=(61,iB (.aG 100 true 0 1 1))::faW 1 (wc [y0,y1,0,0,0,0]) }
 | _=>{ val:=.ptr 61 true 0,new:=[.own (wc [y0,y1,0,0,0,0]) 142],wr:=(61,iB (.aG 100 true 0 2 6))::faW 2 (wc [y0,y1,0,0,0,0]) }
theorem Hb {m:Nat} {ys:List SV} {e:bK} (h:aE Tryz.prog Γv 70 xN (fun l=>look l (Ng (.aG 65 true 0 m 6) ys)) 100 100 e):aE Tryz.prog Γv 70 xN (fun l=>look l (Ng (.aG 65 false 0 m 6) ys)) 100 100 e:=
 aE.reL (L:=Ng (.aG 65 true 0 m 6) ys) (L':=Ng (.aG 65 false 0 m 6) ys) h ⟨rfl,⟨rfl,fun _=>rfl⟩,rfl,⟨rfl,fun _=>rfl⟩,rfl,bW _,rfl,bW _,rfl,bW _,trivial⟩ (fun _=>rfl)
open M in
theorem IK {gR:Nat} (Cv:gR<3) {y0 y1:Int} (h:gR=nl [y0,y1]):aE Tryz.prog Γv 70 xN (fun l=>look l (Ng (.aG 65 false 0 gR 6) (wc [y0,y1,0,0,0,0]))) 100 100 (aKs gR y0 y1):=by
 rcases NL y0 y1 with ⟨h',rfl,rfl⟩ | ⟨h',m0,rfl⟩ | ⟨h',m1⟩ <;> rw [h'] at h <;> subst h
 .exact Hb (((((AP [] []).call (aPa 0) (by simp)).bC 63 _ rfl (by decide)).bC 65 _ rfl (by decide)).re rfl (fun _=>rfl) trivial ⟨rfl,⟨rfl,fun _=>rfl⟩,rfl,⟨rfl,fun _=>rfl⟩,rfl,⟨rfl,fun _=>rfl⟩,trivial⟩)
 .exact Hb (((((AP [] []).call (aOz y0) (by simp)).bC 63 _ rfl (by decide)).bC 65 _ rfl (by decide)).re rfl (fun _=>rfl) ⟨⟨rfl,fun _=>rfl⟩,trivial⟩ ⟨rfl,⟨rfl,fun _=>rfl⟩,rfl,⟨rfl,fun _=>rfl⟩,rfl,⟨rfl,fun _=>rfl⟩,trivial⟩)
 .exact Hb (((((AP [] []).call (aOy y0 y1) (by simp)).bC 63 _ rfl (by decide)).bC 65 _ rfl (by decide)).re rfl (fun _=>rfl) ⟨⟨rfl,fun _=>rfl⟩,trivial⟩ ⟨rfl,⟨rfl,fun _=>rfl⟩,rfl,⟨rfl,fun _=>rfl⟩,rfl,⟨rfl,fun _=>rfl⟩,trivial⟩)
open M in
def DB (gR:Nat) (vs:List SV) (T:bB):Option Canon:=match vs with
 | [.ptr l1 true 0,.ptr l2 true 0,.ptr l3 true 0]=>match Nat.beq l1 l2,T l1,T l3 with
   | true,some (.own [.bool _ _,X] 102),some (.own [.bool _ _,.aG ly _ 0 m 6] 102)=>match T ly with
     | some (.own ys 142)=>match cR .u64 ys with
       | some (y0::y1::_)=>match X with
         | .raw (.slice none 0 0)=>match Nat.blt gR 3 with
           | true=>some { eN:=xN,T0:=Ng (.aG 65 false 0 gR 6) (wc [y0,y1,0,0,0,0]),vl:=[(61,.lab l1 0),(63,.lab l3 0),(65,.lab ly 0)],e0:=aKs gR y0 y1,conds:=[gR=nl [y0,y1]] }
           | false=>none
         | .aG lx _ 0 n ca=>match T lx with
           | some (.own xs 142)=>match cR .u64 xs with
             | some (x0::x1::x2::_)=>some { eN:=xN,T0:=NZ (.aG 64 false 0 n ca) (.aG 65 false 0 m 6) (wc (x0::x1::x2::List.replicate (ca-3) 0)) (wc [y0,y1,0,0,0,0]),vl:=[(61,.lab l1 0),(63,.lab l3 0),(64,.lab lx 0),(65,.lab ly 0)],e0:=faE (n3 x0 x1 x2+(y0+18446744073709551616*y1)) ca (.aG 65 false 0 m 6) (wc [y0,y1,0,0,0,0]),conds:=[ca=6\/ca=7\/ca=8\/ca=9,U x0,U x1,0<=x2/\x2<4,U y0,U y1,n=nl [x0,x1,x2],m=nl [y0,y1]] }
             | _=>none
           | _=>none
         | _=>none
       | _=>none
     | _=>none
   | _,_,_=>none
 | _=>none
theorem aGq (gR:Nat) (Γ:Env) (hg:Γ.aR=aA):aF Tryz.prog Γ 70 (aL aA 100 (DB gR)):=by
 refine aU hg fun vs T c hd hc=>?_
 unfold DB at hd
 split at hd
 case h_2=>cases hd
 split at hd
 case h_2=>cases hd
 split at hd
 case h_2=>cases hd
 split at hd
 case h_2=>cases hd
 split at hd
 case h_3=>cases hd
 .split at hd
  case h_2=>cases hd
  rename_i cL
  cases hd
  exact (IK (by simpa [Nat.blt_eq] using cL) (hc _ (by simp))).words (by rw [hg];rfl) (fun _=>rfl) (fun _ _ h=>h) (fun _=>rfl) rfl rfl
 .split at hd
  case h_2=>cases hd
  split at hd
  case h_2=>cases hd
  cases hd
  exact (WS (hc _ (by simp)) (hc _ (by simp)) (hc _ (by simp)) (hc _ (by simp)) (hc _ (by simp)) (hc _ (by simp)) (hc _ (by simp)) (hc _ (by simp))).words (by rw [hg];rfl) (fun _=>rfl) (fun _ _ h=>h) (fun _=>rfl) rfl rfl
open M in
theorem HE {ca:Nat} (kA:ca=6\/ca=7\/ca=8\/ca=9) {k:Nat} {n0 n1 n2:Int} (h0:U n0) (h1:U n1) (h2:0<=n2/\n2<8) (hk:k=nl [n0,n1,n2]) :
 aE Tryz.prog Γv 67 lQ (fun l=>look l (Uk (.aG 63 false 0 k ca) (wc (n0::n1::n2::List.replicate (ca-3) 0)))) 100 100 (Yq (n0+18446744073709551616*n1) (MM (.aG 63 false 0 k ca) (wc (n0::n1::n2::List.replicate (ca-3) 0)))):=by
 rcases nl3 n0 n1 n2 with ⟨h,rfl,rfl,rfl⟩ | ⟨h,m0,rfl,rfl⟩ | ⟨h,m1,rfl⟩ | ⟨h,m2⟩ <;> rw [h] at hk <;> subst hk
 .exact HI ca _
 .have:=Kv (b:=false) ca h0 (wc (0::0::List.replicate (ca-3) 0))
  rw [show n0+18446744073709551616*0=n0 from by omega]
  exact this
 .exact HH (b:=false) ca h0 h1 (wc (0::List.replicate (ca-3) 0))
 .exact HG kA h0 h1 m2 h2.1 h2.2
open M in
def CN (vs:List SV) (T:bB):Option Canon:=match vs with
 | [.ptr l1 true 0,.aG lo true 0 16 16]=>match T l1 with
   | some (.own [.bool _ _,X] 102)=>match X with
     | .raw (.slice none 0 0)=>some { eN:=lQ,T0:=aBr,vl:=[(61,.lab l1 0),(62,.lab lo 0)],e0:=Yq 0 [(61,.own [.bool true false,.raw (.slice none 0 0)] 102)] }
     | .aG lx _ 0 k c=>match T lx with
       | some (.own xs 142)=>match cR .u64 xs with
         | some [a0]=>some { eN:=lQ,T0:=Uk (.aG 63 false 0 1 c) (ww a0 []),vl:=[(61,.lab l1 0),(62,.lab lo 0),(63,.lab lx 0)],e0:=Yq a0 (MM (.aG 63 false 0 1 c) (ww a0 [])),conds:=[U a0] }
         | some (a0::a1::a2::_)=>some { eN:=lQ,T0:=Uk (.aG 63 false 0 k c) (wc (a0::a1::a2::List.replicate (c-3) 0)),vl:=[(61,.lab l1 0),(62,.lab lo 0),(63,.lab lx 0)],e0:=Yq (a0+18446744073709551616*a1) (MM (.aG 63 false 0 k c) (wc (a0::a1::a2::List.replicate (c-3) 0))),conds:=[c=6\/c=7\/c=8\/c=9,U a0,U a1,0<=a2/\a2<8,k=nl [a0,a1,a2]] }
         | _=>none
       | _=>none
     | _=>none
   | _=>none
 | _=>none
theorem aNs (Γ:Env) (hg:Γ.aR=aA):aF Tryz.prog Γ 67 (aL aA 100 CN):=by
 refine aU hg fun vs T c hd hc=>?_
 unfold CN at hd
 split at hd
 case h_2=>cases hd
 split at hd
 case h_2=>cases hd
 split at hd
 case h_3=>cases hd
 .cases hd
  exact HF.words (by rw [hg];rfl) (fun _=>rfl) (fun _ _ h=>h) (fun _=>rfl) rfl rfl
 .split at hd
  case h_2=>cases hd
  split at hd
  case h_3=>cases hd
  .cases hd
   exact (Kv _ (hc _ (by simp)) _).words (by rw [hg];rfl) (fun _=>rfl) (fun _ _ h=>h) (fun _=>rfl) rfl rfl
  .cases hd
   exact (HE (hc _ (by simp)) (hc _ (by simp)) (hc _ (by simp)) (hc _ (by simp)) (hc _ (by simp))).words (by rw [hg];rfl) (fun _=>rfl) (fun _ _ h=>h) (fun _=>rfl) rfl rfl
def prL:List (Nat × SB):=[(17,.fL [.int true .i64 40]),(18,.fL [.int true .i64 40])]
def prE:bK:={ val:=.ptr 100 true 0,new:=[.own [.bool true false,.aG 101 true 0 3 8] 102,.own Cg 142] }
theorem aFb:aJ (env fF 22) Tryz.f58 true [] 400 [.int true .u64 130,.int true .i64 5] (fun l=>look l prL) 100 100=some prE:=by kernel_rfl
theorem TQ:aE Tryz.prog Γv 58 [.int true .u64 130,.int true .i64 5] (fun l=>look l prL) 100 100 prE:=
 ((aM (bL fF 22) (bS fF (fun f S h Γ _=>sB f S h Γ) 22) mix Tryz.func58 (by kernel_rfl) true [] 400:aF Tryz.prog (env fF 22) 58 _).call aFb (by simp [prE])).re rfl (fun _=>rfl) ⟨⟨rfl,fun _=>rfl⟩,⟨rfl,fun _=>rfl⟩,trivial⟩ trivial
def BV (vs:List SV) (_:bB):Option Canon:=match vs with
 | [.int true .u64 130,.int true .i64 5]=>some { eN:=[.int true .u64 130,.int true .i64 5],T0:=prL,vl:=[],e0:=prE }
 | _=>none
theorem aMv (Γ:Env) (hg:Γ.aR=aA):aF Tryz.prog Γ 58 (aL aA 100 BV):=by
 refine aU hg fun vs T c hd hc=>?_
 unfold BV at hd
 split at hd
 case h_2=>cases hd
 cases hd
 exact TQ.words (by rw [hg];rfl) (fun _=>rfl) (fun _ _ h=>h) (fun _=>rfl) rfl rfl
noncomputable def exG (gR fJ mG:Nat):Nat->Option Sum:=dI (dI (dI (exT gR fJ) 70 (aL aA 100 (DB mG))) 67 (aL aA 100 CN)) 58 (aL aA 100 BV)
theorem aHk (gR fJ mG:Nat):∀ f S,exG gR fJ mG f=some S->∀ Γ:Env,Γ.aR=aA->aF Tryz.prog Γ f S:=bD (bD (bD (aHj gR fJ) 70 _ (aGq mG)) 67 _ aNs) 58 _ aMv
end Go.Proofs.YtnodfocobmghiaaGreatDoor.Sx
