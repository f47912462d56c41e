/- (*Int).Add in place, slow.laid, as summaries. -/
import Derived.Test.YtnodfocobmghiaaGreatDoorQI
open Go
set_option maxRecDepth 100000
namespace Go.Proofs.YtnodfocobmghiaaGreatDoor.Sx
namespace M
theorem aSt {N:Int} (h0:w0 N=0) (h1:w1 N=0) (h2:w2 N=0):ln N=0:=by unfold ln;rw [h0,h1,h2];decide
theorem aBx {N:Int} (h0:w0 N≠0) (h1:w1 N=0) (h2:w2 N=0):ln N=1:=by unfold ln;rw [h1,h2];simp only [nl,if_true,if_neg h0]
theorem Vm {N:Int} (h1:w1 N≠0) (h2:w2 N=0):ln N=2:=by unfold ln;rw [h2];simp only [nl,if_true,if_neg h1]
theorem Nl {N:Int} (h2:w2 N≠0):ln N=3:=by unfold ln;simp only [nl,if_neg h2]
end M
theorem AV (h h2:List Bool):aG Tryz.prog (env (AX h h2) 22) 70 (aK (env (AX h h2) 22) Tryz.f70 true [] 400):=aN (bN _ 22) (bT _ (XL h h2) 22) mix Tryz.func70 (by kernel_rfl) true [] 400
def wN (N:Int) (cap:Nat):List SV:=wc (M.w0 N::M.w1 N::M.w2 N::List.replicate (cap-3) 0)
def faE (N:Int) (cap:Nat) (Y:SV) (ys:List SV):bK:={ val:=.ptr 61 true 0,wr:=[(61,.own [.bool true false,.aH 64 false 0 (M.ln N) cap] 102),(64,.own (wN N cap) 142),(63,.own [.bool true false,Y] 102),(65,.own ys 142)] }
theorem FU {n m ca:Nat} {xs ys:List SV} {e:bK} (h:aE Tryz.prog Γv 70 xS (fun l=>look l (OG (.aH 64 true 0 n ca) (.aH 65 true 0 m 6) xs ys)) 100 100 e):aE Tryz.prog Γv 70 xS (fun l=>look l (OG (.aH 64 false 0 n ca) (.aH 65 false 0 m 6) xs ys)) 100 100 e:=
 aE.reL (L:=OG (.aH 64 true 0 n ca) (.aH 65 true 0 m 6) xs ys) (L':=OG (.aH 64 false 0 n ca) (.aH 65 false 0 m 6) xs ys) h ⟨rfl,⟨rfl,fun _=>rfl⟩,rfl,⟨rfl,fun _=>rfl⟩,rfl,bX _,rfl,bX _,rfl,bX _,rfl,bX _,trivial⟩ (fun _=>rfl)
theorem kQ {h hh:List Bool} {la ly k cap:Nat} {xs ys cells:List SV} {N:Int} {ob:List Prop} (e:jE h hh (.aH 64 true 0 la cap) (.aH 65 true 0 ly 6) xs ys=some { bO:=ob,val:=.ptr 61 true 0,wr:=[(61,.own [.bool true false,.aH 64 true 0 k cap] 102),(64,.own cells 142)] }) (ho:∀ q∈ob,q)
 (hk:k=M.ln N) (hc:∀ V,aI V (wN N cap)=aI V cells):aE Tryz.prog Γv 70 xS (fun l=>look l (OG (.aH 64 false 0 la cap) (.aH 65 false 0 ly 6) xs ys)) 100 100 (faE N cap (.aH 65 false 0 ly 6) ys):=by
 subst hk
 exact FU (((((AV h hh).call e ho).bC 63 _ rfl (by decide)).bC 65 _ rfl (by decide)).re rfl (fun _=>rfl) trivial ⟨rfl,⟨rfl,fun _=>rfl⟩,rfl,⟨rfl,hc⟩,rfl,⟨rfl,fun _=>rfl⟩,rfl,⟨rfl,fun _=>rfl⟩,trivial⟩)
theorem aHp {h hh:List Bool} {la ly k cap:Nat} {xs ys:List SV} {N:Int} (e:jE h hh (.aH 64 true 0 la cap) (.aH 65 true 0 ly 6) xs ys=some { val:=.ptr 61 true 0,wr:=[(61,.own [.bool true false,.aH 64 true 0 k cap] 102)] })
 (hk:k=M.ln N) (hc:∀ V,aI V (wN N cap)=aI V xs):aE Tryz.prog Γv 70 xS (fun l=>look l (OG (.aH 64 false 0 la cap) (.aH 65 false 0 ly 6) xs ys)) 100 100 (faE N cap (.aH 65 false 0 ly 6) ys):=by
 subst hk
 exact FU ((((((AV h hh).call e (by simp)).bC 64 _ rfl (by decide)).bC 63 _ rfl (by decide)).bC 65 _ rfl (by decide)).re rfl (fun _=>rfl) trivial ⟨rfl,⟨rfl,fun _=>rfl⟩,rfl,⟨rfl,hc⟩,rfl,⟨rfl,fun _=>rfl⟩,rfl,⟨rfl,fun _=>rfl⟩,trivial⟩)
theorem jZ {N:Int} {cap:Nat} (h:6<=cap) {a b c:Int} (h0:M.w0 N=a) (h1:M.w1 N=b) (h2:M.w2 N=c):wN N cap = .int false .u64 a :: .int false .u64 b :: .int false .u64 c :: .int false .u64 0::wc (List.replicate (cap-4) 0):=by
 obtain ⟨n,rfl⟩:∃ n,cap=n+4:=⟨cap-4,by omega⟩
 subst h0 h1 h2
 rfl
open M in
theorem WZ {cap:Nat} (kF:cap=6\/cap=7\/cap=8\/cap=9) {la ly:Nat} {x0 x1 x2 y0 y1:Int} (fV:U x0) (fP:U x1) (mO:0<=x2/\x2<4) (eW:U y0) (gK:U y1) (hla:la=nl [x0,x1,x2]) (hly:ly=nl [y0,y1]) :
 aE Tryz.prog Γv 70 xS (fun l=>look l (OG (.aH 64 false 0 la cap) (.aH 65 false 0 ly 6) (wc (x0::x1::x2::List.replicate (cap-3) 0)) (wc [y0,y1,0,0,0,0]))) 100 100 (faE (n3 x0 x1 x2+(y0+18446744073709551616*y1)) cap (.aH 65 false 0 ly 6) (wc [y0,y1,0,0,0,0])):=by
 have h6:6<=cap:=by omega
 obtain ⟨ux0,vx0⟩:=fV
 obtain ⟨ux1,vx1⟩:=fP
 obtain ⟨uy0,vy0⟩:=eW
 obtain ⟨uy1,vy1⟩:=gK
 obtain ⟨N,hN⟩:∃ N,N=n3 x0 x1 x2+(y0+18446744073709551616*y1):=⟨_,rfl⟩
 have Zv:=hN
 unfold n3 at Zv
 rw [<- hN]
 rcases nl3 x0 x1 x2 with ⟨h,rfl,rfl,rfl⟩ | ⟨h,n0,rfl,rfl⟩ | ⟨h,n1,rfl⟩ | ⟨h,n2⟩ <;> rcases NR y0 y1 with ⟨h',rfl,rfl⟩ | ⟨h',m0,rfl⟩ | ⟨h',m1⟩ <;> rw [h] at hla <;> rw [h'] at hly <;> subst hla <;> subst hly
 .exact aHp (aHo kF 0) (aSt (by unfold w0;omega) (by unfold w1;omega) (by unfold w2;omega)).symm (fun _=>by rw [jZ h6 (a:=0) (b:=0) (c:=0) (by unfold w0;omega) (by unfold w1;omega) (by unfold w2;omega) ] <;> (obtain ⟨n,rfl⟩:∃ n,cap=n+4:=⟨cap-4,by omega⟩;rfl))
 .exact kQ (aHn kF y0) (by simp) (aBx (by unfold w0;omega) (by unfold w1;omega) (by unfold w2;omega)).symm (fun _=>by rw [jZ h6 (a:=y0) (b:=0) (c:=0) (by unfold w0;omega) (by unfold w1;omega) (by unfold w2;omega) ] <;> (obtain ⟨n,rfl⟩:∃ n,cap=n+4:=⟨cap-4,by omega⟩;rfl))
 .exact kQ (aHm kF y0 y1) (by simp) (Vm (by unfold w1;omega) (by unfold w2;omega)).symm (fun _=>by rw [jZ h6 (a:=y0) (b:=y1) (c:=0) (by unfold w0;omega) (by unfold w1;omega) (by unfold w2;omega) ] <;> (obtain ⟨n,rfl⟩:∃ n,cap=n+4:=⟨cap-4,by omega⟩;rfl))
 .exact kQ (aHl kF x0) (by simp) (aBx (by unfold w0;omega) (by unfold w1;omega) (by unfold w2;omega)).symm (fun _=>by rw [jZ h6 (a:=x0) (b:=0) (c:=0) (by unfold w0;omega) (by unfold w1;omega) (by unfold w2;omega) ] <;> (obtain ⟨n,rfl⟩:∃ n,cap=n+4:=⟨cap-4,by omega⟩;rfl))
 .by_cases Ck:uh (x0+y0+0)=0
  .have Cc:w0 N=ul (x0+y0+0):=by unfold w0 ul;omega
   have vJ:w1 N=uh (x0+y0+0):=by unfold w1;unfold ul uh at *;omega
   have rF:w2 N=0:=by unfold w2;unfold ul uh at *;omega
   refine kQ (aHk kF x0 y0) (aA ?_) ?_ (fun _=>by rw [jZ h6 Cc vJ rF] <;> rfl)
   .simp only [sh,bZ,beq_eq_false_iff_ne,beq_iff_eq,bne_iff_ne,ne_eq,and_true,true_and]
    unfold U K ul uh at *
    omega
   .symm
    refine aBx (by rw [Cc] <;> first | decide | (unfold ul uh at *;omega) | (rw [bM];unfold ul uh at *;omega)) (by rw [vJ] <;> first | decide | (unfold ul uh at *;omega) | (rw [bM];unfold ul uh at *;omega)) (by rw [rF] <;> first | decide | (unfold ul uh at *;omega) | (rw [bM];unfold ul uh at *;omega))
  .have Cc:w0 N=ul (x0+y0+0):=by unfold w0 ul;omega
   have vJ:w1 N=uh (x0+y0+0):=by unfold w1;unfold ul uh at *;omega
   have rF:w2 N=0:=by unfold w2;unfold ul uh at *;omega
   refine kQ (aHj kF x0 y0) (aA ?_) ?_ (fun _=>by rw [jZ h6 Cc vJ rF] <;> rfl)
   .simp only [sh,bZ,beq_eq_false_iff_ne,beq_iff_eq,bne_iff_ne,ne_eq,and_true,true_and]
    unfold U K ul uh at *
    omega
   .symm
    refine Vm (by rw [vJ] <;> first | decide | (unfold ul uh at *;omega) | (rw [bM];unfold ul uh at *;omega)) (by rw [rF] <;> first | decide | (unfold ul uh at *;omega) | (rw [bM];unfold ul uh at *;omega))
 .by_cases Ck:uh (y1+uh (y0+x0+0)+0)=0
  .have Cc:w0 N=ul (y0+x0+0):=by unfold w0 ul;omega
   have vJ:w1 N=ul (y1+uh (y0+x0+0)+0):=by unfold w1;unfold ul uh at *;omega
   have rF:w2 N=0:=by unfold w2;unfold ul uh at *;omega
   refine kQ (aHi kF x0 y0 y1) (aA ?_) ?_ (fun _=>by rw [jZ h6 Cc vJ rF] <;> rfl)
   .simp only [sh,bZ,beq_eq_false_iff_ne,beq_iff_eq,bne_iff_ne,ne_eq,and_true,true_and]
    unfold U K ul uh at *
    omega
   .symm
    refine Vm (by rw [vJ] <;> first | decide | (unfold ul uh at *;omega) | (rw [bM];unfold ul uh at *;omega)) (by rw [rF] <;> first | decide | (unfold ul uh at *;omega) | (rw [bM];unfold ul uh at *;omega))
  .have Cc:w0 N=ul (y0+x0+0):=by unfold w0 ul;omega
   have vJ:w1 N=ul (y1+uh (y0+x0+0)+0):=by unfold w1;unfold ul uh at *;omega
   have rF:w2 N=1:=by unfold w2;unfold ul uh at *;omega
   refine kQ (aHh kF x0 y0 y1) (aA ?_) ?_ (fun _=>by rw [jZ h6 Cc vJ rF] <;> rfl)
   .simp only [sh,bZ,beq_eq_false_iff_ne,beq_iff_eq,bne_iff_ne,ne_eq,and_true,true_and]
    unfold U K ul uh at *
    omega
   .symm
    refine Nl (by rw [rF] <;> first | decide | (unfold ul uh at *;omega) | (rw [bM];unfold ul uh at *;omega))
 .exact kQ (aHg kF x0 x1) (by simp) (Vm (by unfold w1;omega) (by unfold w2;omega)).symm (fun _=>by rw [jZ h6 (a:=x0) (b:=x1) (c:=0) (by unfold w0;omega) (by unfold w1;omega) (by unfold w2;omega) ] <;> (obtain ⟨n,rfl⟩:∃ n,cap=n+4:=⟨cap-4,by omega⟩;rfl))
 .by_cases Ck:uh (x1+uh (x0+y0+0)+0)=0
  .have Cc:w0 N=ul (x0+y0+0):=by unfold w0 ul;omega
   have vJ:w1 N=ul (x1+uh (x0+y0+0)+0):=by unfold w1;unfold ul uh at *;omega
   have rF:w2 N=0:=by unfold w2;unfold ul uh at *;omega
   refine kQ (aHf kF x0 x1 y0) (aA ?_) ?_ (fun _=>by rw [jZ h6 Cc vJ rF] <;> rfl)
   .simp only [sh,bZ,beq_eq_false_iff_ne,beq_iff_eq,bne_iff_ne,ne_eq,and_true,true_and]
    unfold U K ul uh at *
    omega
   .symm
    refine Vm (by rw [vJ] <;> first | decide | (unfold ul uh at *;omega) | (rw [bM];unfold ul uh at *;omega)) (by rw [rF] <;> first | decide | (unfold ul uh at *;omega) | (rw [bM];unfold ul uh at *;omega))
  .have Cc:w0 N=ul (x0+y0+0):=by unfold w0 ul;omega
   have vJ:w1 N=ul (x1+uh (x0+y0+0)+0):=by unfold w1;unfold ul uh at *;omega
   have rF:w2 N=1:=by unfold w2;unfold ul uh at *;omega
   refine kQ (aHe kF x0 x1 y0) (aA ?_) ?_ (fun _=>by rw [jZ h6 Cc vJ rF] <;> rfl)
   .simp only [sh,bZ,beq_eq_false_iff_ne,beq_iff_eq,bne_iff_ne,ne_eq,and_true,true_and]
    unfold U K ul uh at *
    omega
   .symm
    refine Nl (by rw [rF] <;> first | decide | (unfold ul uh at *;omega) | (rw [bM];unfold ul uh at *;omega))
 .by_cases Ck:uh (x1+y1+uh (x0+y0+0))=0
  .have Cc:w0 N=ul (x0+y0+0):=by unfold w0 ul;omega
   have vJ:w1 N=ul (x1+y1+uh (x0+y0+0)):=by unfold w1;unfold ul uh at *;omega
   have rF:w2 N=uh (x1+y1+uh (x0+y0+0)):=by unfold w2;unfold ul uh at *;omega
   refine kQ (aHd kF x0 x1 y0 y1) (aA ?_) ?_ (fun _=>by rw [jZ h6 Cc vJ rF] <;> rfl)
   .simp only [sh,bZ,beq_eq_false_iff_ne,beq_iff_eq,bne_iff_ne,ne_eq,and_true,true_and]
    unfold U K ul uh at *
    omega
   .symm
    refine Vm (by rw [vJ] <;> first | decide | (unfold ul uh at *;omega) | (rw [bM];unfold ul uh at *;omega)) (by rw [rF] <;> first | decide | (unfold ul uh at *;omega) | (rw [bM];unfold ul uh at *;omega))
  .have Cc:w0 N=ul (x0+y0+0):=by unfold w0 ul;omega
   have vJ:w1 N=ul (x1+y1+uh (x0+y0+0)):=by unfold w1;unfold ul uh at *;omega
   have rF:w2 N=uh (x1+y1+uh (x0+y0+0)):=by unfold w2;unfold ul uh at *;omega
   refine kQ (aHc kF x0 x1 y0 y1) (aA ?_) ?_ (fun _=>by rw [jZ h6 Cc vJ rF] <;> rfl)
   .simp only [sh,bZ,beq_eq_false_iff_ne,beq_iff_eq,bne_iff_ne,ne_eq,and_true,true_and]
    unfold U K ul uh at *
    omega
   .symm
    refine Nl (by rw [rF] <;> first | decide | (unfold ul uh at *;omega) | (rw [bM];unfold ul uh at *;omega))
 .exact kQ (aHb kF x0 x1 x2) (by simp) (Nl (by unfold w2;omega)).symm (fun _=>by rw [jZ h6 (a:=x0) (b:=x1) (c:=x2) (by unfold w0;omega) (by unfold w1;omega) (by unfold w2;omega) ] <;> (obtain ⟨n,rfl⟩:∃ n,cap=n+4:=⟨cap-4,by omega⟩;rfl))
 .by_cases Ck:uh (x1+uh (x0+y0+0)+0)=0
  .have Cc:w0 N=ul (x0+y0+0):=by unfold w0 ul;omega
   have vJ:w1 N=ul (x1+uh (x0+y0+0)+0):=by unfold w1;unfold ul uh at *;omega
   have rF:w2 N=x2:=by unfold w2;unfold ul uh at *;omega
   refine kQ (aHa kF x0 x1 x2 y0) (aA ?_) ?_ (fun _=>by rw [jZ h6 Cc vJ rF] <;> rfl)
   .simp only [sh,bZ,beq_eq_false_iff_ne,beq_iff_eq,bne_iff_ne,ne_eq,and_true,true_and]
    unfold U K ul uh at *
    omega
   .symm
    refine Nl (by rw [rF] <;> first | decide | (unfold ul uh at *;omega) | (rw [bM];unfold ul uh at *;omega))
  .have Cc:w0 N=ul (x0+y0+0):=by unfold w0 ul;omega
   have vJ:w1 N=ul (x1+uh (x0+y0+0)+0):=by unfold w1;unfold ul uh at *;omega
   have rF:w2 N=IntKind.u64.wrap (x2+1):=by rw [bM];unfold w2;unfold ul uh at *;omega
   refine kQ (XA kF x0 x1 x2 y0) (aA ?_) ?_ (fun _=>by rw [jZ h6 Cc vJ rF] <;> rfl)
   .simp only [sh,bZ,beq_eq_false_iff_ne,beq_iff_eq,bne_iff_ne,ne_eq,and_true,true_and,bM]
    unfold U K ul uh at *
    omega
   .symm
    refine Nl (by rw [rF] <;> first | decide | (unfold ul uh at *;omega) | (rw [bM];unfold ul uh at *;omega))
 .have Cc:w0 N=ul (x0+y0+0):=by unfold w0 ul;omega
  have vJ:w1 N=ul (x1+y1+uh (x0+y0+0)):=by unfold w1;unfold ul uh at *;omega
  have rF:w2 N=ul (x2+uh (x1+y1+uh (x0+y0+0))+0):=by unfold w2;unfold ul uh at *;omega
  refine kQ (aGz kF x0 x1 x2 y0 y1) (aA ?_) ?_ (fun _=>by rw [jZ h6 Cc vJ rF] <;> rfl)
  .simp only [sh,bZ,beq_eq_false_iff_ne,beq_iff_eq,bne_iff_ne,ne_eq,and_true,true_and]
   unfold U K ul uh at *
   omega
  .symm
   refine Nl (by rw [rF] <;> first | decide | (unfold ul uh at *;omega) | (rw [bM];unfold ul uh at *;omega))
namespace M
theorem sA {x:Int} (h0:0<=x) (h:x<1000000):IntKind.i64.wrap x=x:=IntWalk.i64_in _ ⟨by omega,by omega⟩
theorem ZY {a:Int} {s:List Int} (hs:bW s):∀ i:Nat,i<=16 ->
 sc (num a) s i=(vs (fun j=>a/256^j%256) i+vs (fun j=>s.getD j 0) i)/256^i/\0<=sc (num a) s i/\sc (num a) s i<=1
 | 0,_=>by simp [sc,vs]
 | i+1,h=>by
   obtain ⟨e,h0,h1⟩:=ZY (a:=a) hs i (by omega)
   have hd:(num a).getD i 0=a/256^i%256:=To a (by omega)
   obtain ⟨hf0,hf1⟩:=hs.get i
   have hP:(0:Int)<256^i:=Int.pow_pos (by decide)
   have Zt:0<=a/256^i%256/\a/256^i%256<256:=⟨Int.emod_nonneg _ (by decide),Int.emod_lt_of_pos _ (by decide)⟩
   have hsc:sc (num a) s (i+1)=(sc (num a) s i+(a/256^i%256+s.getD i 0))/256:=by
    show IntKind.i64.wrap ((IntKind.i64.wrap (IntKind.i64.wrap (sc (num a) s i+(num a).getD i 0)+IntKind.i64.wrap (s.getD i 0))).tdiv 256)=_
    rw [hd,sA (x:=sc (num a) s i+a/256^i%256) (by omega) (by omega),sA (x:=s.getD i 0) (by omega) (by omega),sA (x:=sc (num a) s i+a/256^i%256+s.getD i 0) (by omega) (by omega),Int.tdiv_eq_ediv_of_nonneg (by omega),sA (by omega) (by omega),Int.add_assoc]
   refine ⟨?_,by rw [hsc];omega,by rw [hsc];omega⟩
   rw [hsc,yE,yE,Int.pow_succ]
   have e2:vs (fun j=>a/256^j%256) i+256^i*(a/256^i%256)+(vs (fun j=>s.getD j 0) i+256^i*s.getD i 0)=(vs (fun j=>a/256^j%256) i+vs (fun j=>s.getD j 0) i)+256^i*(a/256^i%256+s.getD i 0):=by
    rw [Int.mul_add];omega
   rw [e2,<- Int.ediv_ediv_of_nonneg (by omega),Int.add_mul_ediv_left _ _ (by omega),<- e]
theorem RB {a:Int} {s:List Int} (hs:bW s):Vg (num a) s=(List.range 16).map (nb (a+vs (fun j=>s.getD j 0) 16)):=by
 unfold Vg
 refine List.map_congr_left fun i hi=>?_
 have hi:i<16:=by simpa using hi
 obtain ⟨e,h0,h1⟩:=ZY (a:=a) hs i (by omega)
 have hd:(num a).getD i 0=a/256^i%256:=To a (by omega)
 obtain ⟨hf0,hf1⟩:=hs.get i
 have hP:(0:Int)<256^i:=Int.pow_pos (by decide)
 have Zt:0<=a/256^i%256/\a/256^i%256<256:=⟨Int.emod_nonneg _ (by decide),Int.emod_lt_of_pos _ (by decide)⟩
 rw [hd,sA (x:=sc (num a) s i+a/256^i%256) (by omega) (by omega),sA (x:=s.getD i 0) (by omega) (by omega),sA (x:=sc (num a) s i+a/256^i%256+s.getD i 0) (by omega) (by omega),Int.tmod_eq_emod_of_nonneg (by omega),IntKind.wrap_u8,e]
 unfold nb
 have e1:=Aj (fun j=>s.getD j 0) (16-(i+1)) (i+1)
 rw [show i+1+(16-(i+1))=16 from by omega,yE (fun j=>s.getD j 0) i] at e1
 have e3:vs (fun j=>a/256^j%256) i=a%256^i:=aDn a i
 have e4:a=a%256^i+256^i*(a/256^i):=(Int.emod_add_mul_ediv a _).symm
 generalize vs (fun j=>s.getD (i+1+j) 0) (16-(i+1))=R at e1
 generalize vs (fun j=>s.getD j 0) i=S at *
 generalize s.getD i 0=f at *
 rw [e3,e1,Int.pow_succ]
 generalize hP':(256:Int)^i=P at *
 generalize hQ:a/P=Q at *
 have e5:a+(S+P*f+P*256*R)=(a%P+S)+P*(Q+f+256*R):=by
  have:P*(Q+f+256*R)=P*Q+P*f+P*256*R:=by rw [Int.mul_add,Int.mul_add,Int.mul_assoc]
  omega
 rw [e5,Int.add_mul_ediv_left _ _ (by omega)]
 omega
theorem aWh (b0 b1 b2 b3 b4 b5 b6 b7 b8 b9 cV cU cT cY cX fW:Int) :
 V [b0,b1,b2,b3,b4,b5,b6,b7,b8,b9,cV,cU,cT,cY,cX,fW,1]=n3 (V [b0,b1,b2,b3,b4,b5,b6,b7]) (V [b8,b9,cV,cU,cT,cY,cX,fW]) 1:=by
 simp only [sE,Ag]
 unfold n3
 omega
theorem aLl (b0 b1 b2 b3 b4 b5 b6 b7 b8 b9 cV cU cT cY cX fW:Int) :
 V [b0,b1,b2,b3,b4,b5,b6,b7,b8,b9,cV,cU,cT,cY,cX,fW]=V [b0,b1,b2,b3,b4,b5,b6,b7]+18446744073709551616*V [b8,b9,cV,cU,cT,cY,cX,fW]:=by
 simp only [sE,Ag]
 omega
end M
def iB (X:SV):SB:=.own [.bool true false,X] 102
def aBu:SV:=.raw (.slice none 0 0)
def faW (m:Nat) (ys:List SV):List (Nat × SB):=[(63,iB (.aH 65 false 0 m 6)),(65,.own ys 142)]
def aKz (gW:Nat) (y0 y1:Int):bK:=match gW with
 | 0=>{ val:=.ptr 61 true 0,wr:=(61,iB aBu)::faW 0 (wc [y0,y1,0,0,0,0]) }
 | 1=>{ val:=.ptr 61 true 0,new:=[.own [.int false .u64 y0] 142],wr:=(61,iB (.aH 100 true 0 1 1))::faW 1 (wc [y0,y1,0,0,0,0]) }
 | _=>{ val:=.ptr 61 true 0,new:=[.own (wc [y0,y1,0,0,0,0]) 142],wr:=(61,iB (.aH 100 true 0 2 6))::faW 2 (wc [y0,y1,0,0,0,0]) }
theorem Hd {m:Nat} {ys:List SV} {e:bK} (h:aE Tryz.prog Γv 70 xS (fun l=>look l (Nq (.aH 65 true 0 m 6) ys)) 100 100 e):aE Tryz.prog Γv 70 xS (fun l=>look l (Nq (.aH 65 false 0 m 6) ys)) 100 100 e:=
 aE.reL (L:=Nq (.aH 65 true 0 m 6) ys) (L':=Nq (.aH 65 false 0 m 6) ys) h ⟨rfl,⟨rfl,fun _=>rfl⟩,rfl,⟨rfl,fun _=>rfl⟩,rfl,bX _,rfl,bX _,rfl,bX _,trivial⟩ (fun _=>rfl)
open M in
theorem IT {gW:Nat} (Cu:gW<3) {y0 y1:Int} (h:gW=nl [y0,y1]):aE Tryz.prog Γv 70 xS (fun l=>look l (Nq (.aH 65 false 0 gW 6) (wc [y0,y1,0,0,0,0]))) 100 100 (aKz gW y0 y1):=by
 rcases NR y0 y1 with ⟨h',rfl,rfl⟩ | ⟨h',m0,rfl⟩ | ⟨h',m1⟩ <;> rw [h'] at h <;> subst h
 .exact Hd (((((AV [] []).call (aPg 0) (by simp)).bC 63 _ rfl (by decide)).bC 65 _ rfl (by decide)).re rfl (fun _=>rfl) trivial ⟨rfl,⟨rfl,fun _=>rfl⟩,rfl,⟨rfl,fun _=>rfl⟩,rfl,⟨rfl,fun _=>rfl⟩,trivial⟩)
 .exact Hd (((((AV [] []).call (aPf y0) (by simp)).bC 63 _ rfl (by decide)).bC 65 _ rfl (by decide)).re rfl (fun _=>rfl) ⟨⟨rfl,fun _=>rfl⟩,trivial⟩ ⟨rfl,⟨rfl,fun _=>rfl⟩,rfl,⟨rfl,fun _=>rfl⟩,rfl,⟨rfl,fun _=>rfl⟩,trivial⟩)
 .exact Hd (((((AV [] []).call (aPe y0 y1) (by simp)).bC 63 _ rfl (by decide)).bC 65 _ rfl (by decide)).re rfl (fun _=>rfl) ⟨⟨rfl,fun _=>rfl⟩,trivial⟩ ⟨rfl,⟨rfl,fun _=>rfl⟩,rfl,⟨rfl,fun _=>rfl⟩,rfl,⟨rfl,fun _=>rfl⟩,trivial⟩)
open M in
def DH (gW:Nat) (vs:List SV) (T:bB):Option Canon:=match vs with
 | [.ptr l1 true 0,.ptr l2 true 0,.ptr l3 true 0]=>match Nat.beq l1 l2,T l1,T l3 with
   | true,some (.own [.bool _ _,X] 102),some (.own [.bool _ _,.aH ly _ 0 m 6] 102)=>match T ly with
     | some (.own ys 142)=>match cR .u64 ys with
       | some (y0::y1::_)=>match X with
         | .raw (.slice none 0 0)=>match Nat.blt gW 3 with
           | true=>some { eR:=xS,T0:=Nq (.aH 65 false 0 gW 6) (wc [y0,y1,0,0,0,0]),vl:=[(61,.lab l1 0),(63,.lab l3 0),(65,.lab ly 0)],e0:=aKz gW y0 y1,conds:=[gW=nl [y0,y1]] }
           | false=>none
         | .aH lx _ 0 n ca=>match T lx with
           | some (.own xs 142)=>match cR .u64 xs with
             | some (x0::x1::x2::_)=>some { eR:=xS,T0:=OG (.aH 64 false 0 n ca) (.aH 65 false 0 m 6) (wc (x0::x1::x2::List.replicate (ca-3) 0)) (wc [y0,y1,0,0,0,0]),vl:=[(61,.lab l1 0),(63,.lab l3 0),(64,.lab lx 0),(65,.lab ly 0)],e0:=faE (n3 x0 x1 x2+(y0+18446744073709551616*y1)) ca (.aH 65 false 0 m 6) (wc [y0,y1,0,0,0,0]),conds:=[ca=6\/ca=7\/ca=8\/ca=9,U x0,U x1,0<=x2/\x2<4,U y0,U y1,n=nl [x0,x1,x2],m=nl [y0,y1]] }
             | _=>none
           | _=>none
         | _=>none
       | _=>none
     | _=>none
   | _,_,_=>none
 | _=>none
theorem aGy (gW:Nat) (Γ:Env) (hg:Γ.aR=aB):aG Tryz.prog Γ 70 (aL aB 100 (DH gW)):=by
 refine aW hg fun vs T c hd hc=>?_
 unfold DH at hd
 split at hd
 case h_2=>cases hd
 split at hd
 case h_2=>cases hd
 split at hd
 case h_2=>cases hd
 split at hd
 case h_2=>cases hd
 split at hd
 case h_3=>cases hd
 .split at hd
  case h_2=>cases hd
  rename_i cL
  cases hd
  exact (IT (by simpa [Nat.blt_eq] using cL) (hc _ (by simp))).words (by rw [hg];rfl) (fun _=>rfl) (fun _ _ h=>h) (fun _=>rfl) rfl rfl
 .split at hd
  case h_2=>cases hd
  split at hd
  case h_2=>cases hd
  cases hd
  exact (WZ (hc _ (by simp)) (hc _ (by simp)) (hc _ (by simp)) (hc _ (by simp)) (hc _ (by simp)) (hc _ (by simp)) (hc _ (by simp)) (hc _ (by simp))).words (by rw [hg];rfl) (fun _=>rfl) (fun _ _ h=>h) (fun _=>rfl) rfl rfl
open M in
theorem HM {ca:Nat} (kF:ca=6\/ca=7\/ca=8\/ca=9) {k:Nat} {n0 n1 n2:Int} (h0:U n0) (h1:U n1) (h2:0<=n2/\n2<8) (hk:k=nl [n0,n1,n2]) :
 aE Tryz.prog Γv 67 lU (fun l=>look l (Uv (.aH 63 false 0 k ca) (wc (n0::n1::n2::List.replicate (ca-3) 0)))) 100 100 (Yz (n0+18446744073709551616*n1) (MQ (.aH 63 false 0 k ca) (wc (n0::n1::n2::List.replicate (ca-3) 0)))):=by
 rcases nl3 n0 n1 n2 with ⟨h,rfl,rfl,rfl⟩ | ⟨h,m0,rfl,rfl⟩ | ⟨h,m1,rfl⟩ | ⟨h,m2⟩ <;> rw [h] at hk <;> subst hk
 .exact HQ ca _
 .have:=La (b:=false) ca h0 (wc (0::0::List.replicate (ca-3) 0))
  rw [show n0+18446744073709551616*0=n0 from by omega]
  exact this
 .exact HP (b:=false) ca h0 h1 (wc (0::List.replicate (ca-3) 0))
 .exact HO kF h0 h1 m2 h2.1 h2.2
open M in
def CS (vs:List SV) (T:bB):Option Canon:=match vs with
 | [.ptr l1 true 0,.aH lo true 0 16 16]=>match T l1 with
   | some (.own [.bool _ _,X] 102)=>match X with
     | .raw (.slice none 0 0)=>some { eR:=lU,T0:=aBz,vl:=[(61,.lab l1 0),(62,.lab lo 0)],e0:=Yz 0 [(61,.own [.bool true false,.raw (.slice none 0 0)] 102)] }
     | .aH lx _ 0 k c=>match T lx with
       | some (.own xs 142)=>match cR .u64 xs with
         | some [a0]=>some { eR:=lU,T0:=Uv (.aH 63 false 0 1 c) (ww a0 []),vl:=[(61,.lab l1 0),(62,.lab lo 0),(63,.lab lx 0)],e0:=Yz a0 (MQ (.aH 63 false 0 1 c) (ww a0 [])),conds:=[U a0] }
         | some (a0::a1::a2::_)=>some { eR:=lU,T0:=Uv (.aH 63 false 0 k c) (wc (a0::a1::a2::List.replicate (c-3) 0)),vl:=[(61,.lab l1 0),(62,.lab lo 0),(63,.lab lx 0)],e0:=Yz (a0+18446744073709551616*a1) (MQ (.aH 63 false 0 k c) (wc (a0::a1::a2::List.replicate (c-3) 0))),conds:=[c=6\/c=7\/c=8\/c=9,U a0,U a1,0<=a2/\a2<8,k=nl [a0,a1,a2]] }
         | _=>none
       | _=>none
     | _=>none
   | _=>none
 | _=>none
theorem aNx (Γ:Env) (hg:Γ.aR=aB):aG Tryz.prog Γ 67 (aL aB 100 CS):=by
 refine aW hg fun vs T c hd hc=>?_
 unfold CS at hd
 split at hd
 case h_2=>cases hd
 split at hd
 case h_2=>cases hd
 split at hd
 case h_3=>cases hd
 .cases hd
  exact HN.words (by rw [hg];rfl) (fun _=>rfl) (fun _ _ h=>h) (fun _=>rfl) rfl rfl
 .split at hd
  case h_2=>cases hd
  split at hd
  case h_3=>cases hd
  .cases hd
   exact (La _ (hc _ (by simp)) _).words (by rw [hg];rfl) (fun _=>rfl) (fun _ _ h=>h) (fun _=>rfl) rfl rfl
  .cases hd
   exact (HM (hc _ (by simp)) (hc _ (by simp)) (hc _ (by simp)) (hc _ (by simp)) (hc _ (by simp))).words (by rw [hg];rfl) (fun _=>rfl) (fun _ _ h=>h) (fun _=>rfl) rfl rfl
def prL:List (Nat × SB):=[(17,.fO [.int true .i64 40]),(18,.fO [.int true .i64 40])]
def prE:bK:={ val:=.ptr 100 true 0,new:=[.own [.bool true false,.aH 101 true 0 3 8] 102,.own Cg 142] }
theorem aFi:aK (env fR 22) Tryz.f58 true [] 400 [.int true .u64 130,.int true .i64 5] (fun l=>look l prL) 100 100=some prE:=by kernel_rfl
theorem TX:aE Tryz.prog Γv 58 [.int true .u64 130,.int true .i64 5] (fun l=>look l prL) 100 100 prE:=
 ((aN (bN fR 22) (bT fR (fun f S h Γ _=>sC f S h Γ) 22) mix Tryz.func58 (by kernel_rfl) true [] 400:aG Tryz.prog (env fR 22) 58 _).call aFi (by simp [prE])).re rfl (fun _=>rfl) ⟨⟨rfl,fun _=>rfl⟩,⟨rfl,fun _=>rfl⟩,trivial⟩ trivial
def CA (vs:List SV) (_:bB):Option Canon:=match vs with
 | [.int true .u64 130,.int true .i64 5]=>some { eR:=[.int true .u64 130,.int true .i64 5],T0:=prL,vl:=[],e0:=prE }
 | _=>none
theorem aMz (Γ:Env) (hg:Γ.aR=aB):aG Tryz.prog Γ 58 (aL aB 100 CA):=by
 refine aW hg fun vs T c hd hc=>?_
 unfold CA at hd
 split at hd
 case h_2=>cases hd
 cases hd
 exact TX.words (by rw [hg];rfl) (fun _=>rfl) (fun _ _ h=>h) (fun _=>rfl) rfl rfl
noncomputable def exG (gW fK mJ:Nat):Nat->Option Sum:=dM (dM (dM (exT gW fK) 70 (aL aB 100 (DH mJ))) 67 (aL aB 100 CS)) 58 (aL aB 100 CA)
theorem aHs (gW fK mJ:Nat):∀ f S,exG gW fK mJ f=some S->∀ Γ:Env,Γ.aR=aB->aG Tryz.prog Γ f S:=bF (bF (bF (aHr gW fK) 70 _ (aGy mJ)) 67 _ aNx) 58 _ aMz
end Go.Proofs.YtnodfocobmghiaaGreatDoor.Sx
