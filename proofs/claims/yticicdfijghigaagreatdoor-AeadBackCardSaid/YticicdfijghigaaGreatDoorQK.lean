/- (*Int).Add in place, slow.laid, as summaries. -/
import Derived.Test.YticicdfijghigaaGreatDoorQJ
open Go
set_option maxRecDepth 100000
namespace Go.Proofs.YticicdfijghigaaGreatDoor.Sx
namespace M
theorem aXv {N:Int} (h0:w0 N=0) (h1:w1 N=0) (h2:w2 N=0):ln N=0:=by unfold ln;rw [h0,h1,h2];decide
theorem aGa {N:Int} (h0:w0 N≠0) (h1:w1 N=0) (h2:w2 N=0):ln N=1:=by unfold ln;rw [h1,h2];simp only [nl,if_true,if_neg h0]
theorem Ym {N:Int} (h1:w1 N≠0) (h2:w2 N=0):ln N=2:=by unfold ln;rw [h2];simp only [nl,if_true,if_neg h1]
theorem Pu {N:Int} (h2:w2 N≠0):ln N=3:=by unfold ln;simp only [nl,if_neg h2]
end M
theorem ED (h h2:List Bool):aI Tryz.prog (env (EF h h2) 22) 102 (aJ (env (EF h h2) 22) Tryz.f102 true [] 400):=aN (bQ _ 22) (bW _ (aCf h h2) 22) mix Tryz.func102 (by kernel_rfl) true [] 400
def wN (N:Int) (cap:Nat):List SV:=wc (M.w0 N::M.w1 N::M.w2 N::List.replicate (cap-3) 0)
def faE (N:Int) (cap:Nat) (Y:SV) (ys:List SV):bJ:={ val:=.ptr 61 true 0,wr:=[(61,.own [.bool true false,.aH 64 false 0 (M.ln N) cap] 146),(64,.own (wN N cap) 196),(63,.own [.bool true false,Y] 146),(65,.own ys 196)] }
theorem JV {n m ca:Nat} {xs ys:List SV} {e:bJ} (h:aE Tryz.prog Γv 102 zD (fun l=>look l (SK (.aH 64 true 0 n ca) (.aH 65 true 0 m 6) xs ys)) 100 100 e):aE Tryz.prog Γv 102 zD (fun l=>look l (SK (.aH 64 false 0 n ca) (.aH 65 false 0 m 6) xs ys)) 100 100 e:=
 aE.reL (L:=SK (.aH 64 true 0 n ca) (.aH 65 true 0 m 6) xs ys) (L':=SK (.aH 64 false 0 n ca) (.aH 65 false 0 m 6) xs ys) h ⟨rfl,⟨rfl,fun _=>rfl⟩,rfl,⟨rfl,fun _=>rfl⟩,rfl,cC _,rfl,cC _,rfl,cC _,rfl,cC _,trivial⟩ (fun _=>rfl)
theorem lN {h hh:List Bool} {la ly k cap:Nat} {xs ys cells:List SV} {N:Int} {ob:List Prop} (e:jR h hh (.aH 64 true 0 la cap) (.aH 65 true 0 ly 6) xs ys=some { bK:=ob,val:=.ptr 61 true 0,wr:=[(61,.own [.bool true false,.aH 64 true 0 k cap] 146),(64,.own cells 196)] }) (ho:∀ q∈ob,q)
 (hk:k=M.ln N) (hc:∀ V,aG V (wN N cap)=aG V cells):aE Tryz.prog Γv 102 zD (fun l=>look l (SK (.aH 64 false 0 la cap) (.aH 65 false 0 ly 6) xs ys)) 100 100 (faE N cap (.aH 65 false 0 ly 6) ys):=by
 subst hk
 exact JV (((((ED h hh).call e ho).bE 63 _ rfl (by decide)).bE 65 _ rfl (by decide)).re rfl (fun _=>rfl) trivial ⟨rfl,⟨rfl,fun _=>rfl⟩,rfl,⟨rfl,hc⟩,rfl,⟨rfl,fun _=>rfl⟩,rfl,⟨rfl,fun _=>rfl⟩,trivial⟩)
theorem aMa {h hh:List Bool} {la ly k cap:Nat} {xs ys:List SV} {N:Int} (e:jR h hh (.aH 64 true 0 la cap) (.aH 65 true 0 ly 6) xs ys=some { val:=.ptr 61 true 0,wr:=[(61,.own [.bool true false,.aH 64 true 0 k cap] 146)] })
 (hk:k=M.ln N) (hc:∀ V,aG V (wN N cap)=aG V xs):aE Tryz.prog Γv 102 zD (fun l=>look l (SK (.aH 64 false 0 la cap) (.aH 65 false 0 ly 6) xs ys)) 100 100 (faE N cap (.aH 65 false 0 ly 6) ys):=by
 subst hk
 exact JV ((((((ED h hh).call e (by simp)).bE 64 _ rfl (by decide)).bE 63 _ rfl (by decide)).bE 65 _ rfl (by decide)).re rfl (fun _=>rfl) trivial ⟨rfl,⟨rfl,fun _=>rfl⟩,rfl,⟨rfl,hc⟩,rfl,⟨rfl,fun _=>rfl⟩,rfl,⟨rfl,fun _=>rfl⟩,trivial⟩)
theorem kU {N:Int} {cap:Nat} (h:6<=cap) {a b c:Int} (h0:M.w0 N=a) (h1:M.w1 N=b) (h2:M.w2 N=c):wN N cap = .int false .u64 a :: .int false .u64 b :: .int false .u64 c :: .int false .u64 0::wc (List.replicate (cap-4) 0):=by
 obtain ⟨n,rfl⟩:∃ n,cap=n+4:=⟨cap-4,by omega⟩
 subst h0 h1 h2
 rfl
open M in
theorem aBr {cap:Nat} (lC:cap=6\/cap=7\/cap=8\/cap=9) {la ly:Nat} {x0 x1 x2 y0 y1:Int} (gC:U x0) (gD:U x1) (nJ:0<=x2/\x2<4) (fG:U y0) (iA:U y1) (SC:la=nl [x0,x1,x2]) (hly:ly=nl [y0,y1]) :
 aE Tryz.prog Γv 102 zD (fun l=>look l (SK (.aH 64 false 0 la cap) (.aH 65 false 0 ly 6) (wc (x0::x1::x2::List.replicate (cap-3) 0)) (wc [y0,y1,0,0,0,0]))) 100 100 (faE (n3 x0 x1 x2+(y0+18446744073709551616*y1)) cap (.aH 65 false 0 ly 6) (wc [y0,y1,0,0,0,0])):=by
 have h6:6<=cap:=by omega
 obtain ⟨ux0,vx0⟩:=gC
 obtain ⟨ux1,vx1⟩:=gD
 obtain ⟨uy0,vy0⟩:=fG
 obtain ⟨uy1,vy1⟩:=iA
 obtain ⟨N,hN⟩:∃ N,N=n3 x0 x1 x2+(y0+18446744073709551616*y1):=⟨_,rfl⟩
 have DG:=hN
 unfold n3 at DG
 rw [<- hN]
 rcases nl3 x0 x1 x2 with ⟨h,rfl,rfl,rfl⟩ | ⟨h,n0,rfl,rfl⟩ | ⟨h,n1,rfl⟩ | ⟨h,n2⟩ <;> rcases RU y0 y1 with ⟨h',rfl,rfl⟩ | ⟨h',m0,rfl⟩ | ⟨h',m1⟩ <;> rw [h] at SC <;> rw [h'] at hly <;> subst SC <;> subst hly
 .exact aMa (aLz lC 0) (aXv (by unfold w0;omega) (by unfold w1;omega) (by unfold w2;omega)).symm (fun _=>by rw [kU h6 (a:=0) (b:=0) (c:=0) (by unfold w0;omega) (by unfold w1;omega) (by unfold w2;omega) ] <;> (obtain ⟨n,rfl⟩:∃ n,cap=n+4:=⟨cap-4,by omega⟩;rfl))
 .exact lN (aLy lC y0) (by simp) (aGa (by unfold w0;omega) (by unfold w1;omega) (by unfold w2;omega)).symm (fun _=>by rw [kU h6 (a:=y0) (b:=0) (c:=0) (by unfold w0;omega) (by unfold w1;omega) (by unfold w2;omega) ] <;> (obtain ⟨n,rfl⟩:∃ n,cap=n+4:=⟨cap-4,by omega⟩;rfl))
 .exact lN (aLx lC y0 y1) (by simp) (Ym (by unfold w1;omega) (by unfold w2;omega)).symm (fun _=>by rw [kU h6 (a:=y0) (b:=y1) (c:=0) (by unfold w0;omega) (by unfold w1;omega) (by unfold w2;omega) ] <;> (obtain ⟨n,rfl⟩:∃ n,cap=n+4:=⟨cap-4,by omega⟩;rfl))
 .exact lN (aLw lC x0) (by simp) (aGa (by unfold w0;omega) (by unfold w1;omega) (by unfold w2;omega)).symm (fun _=>by rw [kU h6 (a:=x0) (b:=0) (c:=0) (by unfold w0;omega) (by unfold w1;omega) (by unfold w2;omega) ] <;> (obtain ⟨n,rfl⟩:∃ n,cap=n+4:=⟨cap-4,by omega⟩;rfl))
 .by_cases An:uh (x0+y0+0)=0
  .have Du:w0 N=ul (x0+y0+0):=by unfold w0 ul;omega
   have wP:w1 N=uh (x0+y0+0):=by unfold w1;unfold ul uh at *;omega
   have sJ:w2 N=0:=by unfold w2;unfold ul uh at *;omega
   refine lN (aLv lC x0 y0) (aA ?_) ?_ (fun _=>by rw [kU h6 Du wP sJ] <;> rfl)
   .simp only [sh,bX,beq_eq_false_iff_ne,beq_iff_eq,bne_iff_ne,ne_eq,and_true,true_and]
    unfold U K ul uh at *
    omega
   .symm
    refine aGa (by rw [Du] <;> first | decide | (unfold ul uh at *;omega) | (rw [bP];unfold ul uh at *;omega)) (by rw [wP] <;> first | decide | (unfold ul uh at *;omega) | (rw [bP];unfold ul uh at *;omega)) (by rw [sJ] <;> first | decide | (unfold ul uh at *;omega) | (rw [bP];unfold ul uh at *;omega))
  .have Du:w0 N=ul (x0+y0+0):=by unfold w0 ul;omega
   have wP:w1 N=uh (x0+y0+0):=by unfold w1;unfold ul uh at *;omega
   have sJ:w2 N=0:=by unfold w2;unfold ul uh at *;omega
   refine lN (aLu lC x0 y0) (aA ?_) ?_ (fun _=>by rw [kU h6 Du wP sJ] <;> rfl)
   .simp only [sh,bX,beq_eq_false_iff_ne,beq_iff_eq,bne_iff_ne,ne_eq,and_true,true_and]
    unfold U K ul uh at *
    omega
   .symm
    refine Ym (by rw [wP] <;> first | decide | (unfold ul uh at *;omega) | (rw [bP];unfold ul uh at *;omega)) (by rw [sJ] <;> first | decide | (unfold ul uh at *;omega) | (rw [bP];unfold ul uh at *;omega))
 .by_cases An:uh (y1+uh (y0+x0+0)+0)=0
  .have Du:w0 N=ul (y0+x0+0):=by unfold w0 ul;omega
   have wP:w1 N=ul (y1+uh (y0+x0+0)+0):=by unfold w1;unfold ul uh at *;omega
   have sJ:w2 N=0:=by unfold w2;unfold ul uh at *;omega
   refine lN (aLt lC x0 y0 y1) (aA ?_) ?_ (fun _=>by rw [kU h6 Du wP sJ] <;> rfl)
   .simp only [sh,bX,beq_eq_false_iff_ne,beq_iff_eq,bne_iff_ne,ne_eq,and_true,true_and]
    unfold U K ul uh at *
    omega
   .symm
    refine Ym (by rw [wP] <;> first | decide | (unfold ul uh at *;omega) | (rw [bP];unfold ul uh at *;omega)) (by rw [sJ] <;> first | decide | (unfold ul uh at *;omega) | (rw [bP];unfold ul uh at *;omega))
  .have Du:w0 N=ul (y0+x0+0):=by unfold w0 ul;omega
   have wP:w1 N=ul (y1+uh (y0+x0+0)+0):=by unfold w1;unfold ul uh at *;omega
   have sJ:w2 N=1:=by unfold w2;unfold ul uh at *;omega
   refine lN (aLs lC x0 y0 y1) (aA ?_) ?_ (fun _=>by rw [kU h6 Du wP sJ] <;> rfl)
   .simp only [sh,bX,beq_eq_false_iff_ne,beq_iff_eq,bne_iff_ne,ne_eq,and_true,true_and]
    unfold U K ul uh at *
    omega
   .symm
    refine Pu (by rw [sJ] <;> first | decide | (unfold ul uh at *;omega) | (rw [bP];unfold ul uh at *;omega))
 .exact lN (aLr lC x0 x1) (by simp) (Ym (by unfold w1;omega) (by unfold w2;omega)).symm (fun _=>by rw [kU h6 (a:=x0) (b:=x1) (c:=0) (by unfold w0;omega) (by unfold w1;omega) (by unfold w2;omega) ] <;> (obtain ⟨n,rfl⟩:∃ n,cap=n+4:=⟨cap-4,by omega⟩;rfl))
 .by_cases An:uh (x1+uh (x0+y0+0)+0)=0
  .have Du:w0 N=ul (x0+y0+0):=by unfold w0 ul;omega
   have wP:w1 N=ul (x1+uh (x0+y0+0)+0):=by unfold w1;unfold ul uh at *;omega
   have sJ:w2 N=0:=by unfold w2;unfold ul uh at *;omega
   refine lN (aLq lC x0 x1 y0) (aA ?_) ?_ (fun _=>by rw [kU h6 Du wP sJ] <;> rfl)
   .simp only [sh,bX,beq_eq_false_iff_ne,beq_iff_eq,bne_iff_ne,ne_eq,and_true,true_and]
    unfold U K ul uh at *
    omega
   .symm
    refine Ym (by rw [wP] <;> first | decide | (unfold ul uh at *;omega) | (rw [bP];unfold ul uh at *;omega)) (by rw [sJ] <;> first | decide | (unfold ul uh at *;omega) | (rw [bP];unfold ul uh at *;omega))
  .have Du:w0 N=ul (x0+y0+0):=by unfold w0 ul;omega
   have wP:w1 N=ul (x1+uh (x0+y0+0)+0):=by unfold w1;unfold ul uh at *;omega
   have sJ:w2 N=1:=by unfold w2;unfold ul uh at *;omega
   refine lN (aLp lC x0 x1 y0) (aA ?_) ?_ (fun _=>by rw [kU h6 Du wP sJ] <;> rfl)
   .simp only [sh,bX,beq_eq_false_iff_ne,beq_iff_eq,bne_iff_ne,ne_eq,and_true,true_and]
    unfold U K ul uh at *
    omega
   .symm
    refine Pu (by rw [sJ] <;> first | decide | (unfold ul uh at *;omega) | (rw [bP];unfold ul uh at *;omega))
 .by_cases An:uh (x1+y1+uh (x0+y0+0))=0
  .have Du:w0 N=ul (x0+y0+0):=by unfold w0 ul;omega
   have wP:w1 N=ul (x1+y1+uh (x0+y0+0)):=by unfold w1;unfold ul uh at *;omega
   have sJ:w2 N=uh (x1+y1+uh (x0+y0+0)):=by unfold w2;unfold ul uh at *;omega
   refine lN (aLo lC x0 x1 y0 y1) (aA ?_) ?_ (fun _=>by rw [kU h6 Du wP sJ] <;> rfl)
   .simp only [sh,bX,beq_eq_false_iff_ne,beq_iff_eq,bne_iff_ne,ne_eq,and_true,true_and]
    unfold U K ul uh at *
    omega
   .symm
    refine Ym (by rw [wP] <;> first | decide | (unfold ul uh at *;omega) | (rw [bP];unfold ul uh at *;omega)) (by rw [sJ] <;> first | decide | (unfold ul uh at *;omega) | (rw [bP];unfold ul uh at *;omega))
  .have Du:w0 N=ul (x0+y0+0):=by unfold w0 ul;omega
   have wP:w1 N=ul (x1+y1+uh (x0+y0+0)):=by unfold w1;unfold ul uh at *;omega
   have sJ:w2 N=uh (x1+y1+uh (x0+y0+0)):=by unfold w2;unfold ul uh at *;omega
   refine lN (aLn lC x0 x1 y0 y1) (aA ?_) ?_ (fun _=>by rw [kU h6 Du wP sJ] <;> rfl)
   .simp only [sh,bX,beq_eq_false_iff_ne,beq_iff_eq,bne_iff_ne,ne_eq,and_true,true_and]
    unfold U K ul uh at *
    omega
   .symm
    refine Pu (by rw [sJ] <;> first | decide | (unfold ul uh at *;omega) | (rw [bP];unfold ul uh at *;omega))
 .exact lN (aLm lC x0 x1 x2) (by simp) (Pu (by unfold w2;omega)).symm (fun _=>by rw [kU h6 (a:=x0) (b:=x1) (c:=x2) (by unfold w0;omega) (by unfold w1;omega) (by unfold w2;omega) ] <;> (obtain ⟨n,rfl⟩:∃ n,cap=n+4:=⟨cap-4,by omega⟩;rfl))
 .by_cases An:uh (x1+uh (x0+y0+0)+0)=0
  .have Du:w0 N=ul (x0+y0+0):=by unfold w0 ul;omega
   have wP:w1 N=ul (x1+uh (x0+y0+0)+0):=by unfold w1;unfold ul uh at *;omega
   have sJ:w2 N=x2:=by unfold w2;unfold ul uh at *;omega
   refine lN (aLl lC x0 x1 x2 y0) (aA ?_) ?_ (fun _=>by rw [kU h6 Du wP sJ] <;> rfl)
   .simp only [sh,bX,beq_eq_false_iff_ne,beq_iff_eq,bne_iff_ne,ne_eq,and_true,true_and]
    unfold U K ul uh at *
    omega
   .symm
    refine Pu (by rw [sJ] <;> first | decide | (unfold ul uh at *;omega) | (rw [bP];unfold ul uh at *;omega))
  .have Du:w0 N=ul (x0+y0+0):=by unfold w0 ul;omega
   have wP:w1 N=ul (x1+uh (x0+y0+0)+0):=by unfold w1;unfold ul uh at *;omega
   have sJ:w2 N=IntKind.u64.wrap (x2+1):=by rw [bP];unfold w2;unfold ul uh at *;omega
   refine lN (aBs lC x0 x1 x2 y0) (aA ?_) ?_ (fun _=>by rw [kU h6 Du wP sJ] <;> rfl)
   .simp only [sh,bX,beq_eq_false_iff_ne,beq_iff_eq,bne_iff_ne,ne_eq,and_true,true_and,bP]
    unfold U K ul uh at *
    omega
   .symm
    refine Pu (by rw [sJ] <;> first | decide | (unfold ul uh at *;omega) | (rw [bP];unfold ul uh at *;omega))
 .have Du:w0 N=ul (x0+y0+0):=by unfold w0 ul;omega
  have wP:w1 N=ul (x1+y1+uh (x0+y0+0)):=by unfold w1;unfold ul uh at *;omega
  have sJ:w2 N=ul (x2+uh (x1+y1+uh (x0+y0+0))+0):=by unfold w2;unfold ul uh at *;omega
  refine lN (aLk lC x0 x1 x2 y0 y1) (aA ?_) ?_ (fun _=>by rw [kU h6 Du wP sJ] <;> rfl)
  .simp only [sh,bX,beq_eq_false_iff_ne,beq_iff_eq,bne_iff_ne,ne_eq,and_true,true_and]
   unfold U K ul uh at *
   omega
  .symm
   refine Pu (by rw [sJ] <;> first | decide | (unfold ul uh at *;omega) | (rw [bP];unfold ul uh at *;omega))
namespace M
theorem tH {x:Int} (h0:0<=x) (h:x<1000000):IntKind.i64.wrap x=x:=IntWalk.i64_in _ ⟨by omega,by omega⟩
theorem aDv {a:Int} {s:List Int} (hs:bR s):∀ i:Nat,i<=16 ->
 sc (num a) s i=(vs (fun j=>a/256^j%256) i+vs (fun j=>s.getD j 0) i)/256^i/\0<=sc (num a) s i/\sc (num a) s i<=1
 | 0,_=>by simp [sc,vs]
 | i+1,h=>by
   obtain ⟨e,h0,h1⟩:=aDv (a:=a) hs i (by omega)
   have hd:(num a).getD i 0=a/256^i%256:=Wj a (by omega)
   obtain ⟨hf0,hf1⟩:=hs.get i
   have hP:(0:Int)<256^i:=Int.pow_pos (by decide)
   have DA:0<=a/256^i%256/\a/256^i%256<256:=⟨Int.emod_nonneg _ (by decide),Int.emod_lt_of_pos _ (by decide)⟩
   have hsc:sc (num a) s (i+1)=(sc (num a) s i+(a/256^i%256+s.getD i 0))/256:=by
    show IntKind.i64.wrap ((IntKind.i64.wrap (IntKind.i64.wrap (sc (num a) s i+(num a).getD i 0)+IntKind.i64.wrap (s.getD i 0))).tdiv 256)=_
    rw [hd,tH (x:=sc (num a) s i+a/256^i%256) (by omega) (by omega),tH (x:=s.getD i 0) (by omega) (by omega),tH (x:=sc (num a) s i+a/256^i%256+s.getD i 0) (by omega) (by omega),Int.tdiv_eq_ediv_of_nonneg (by omega),tH (by omega) (by omega),Int.add_assoc]
   refine ⟨?_,by rw [hsc];omega,by rw [hsc];omega⟩
   rw [hsc,zS,zS,Int.pow_succ]
   have e2:vs (fun j=>a/256^j%256) i+256^i*(a/256^i%256)+(vs (fun j=>s.getD j 0) i+256^i*s.getD i 0)=(vs (fun j=>a/256^j%256) i+vs (fun j=>s.getD j 0) i)+256^i*(a/256^i%256+s.getD i 0):=by
    rw [Int.mul_add];omega
   rw [e2,<- Int.ediv_ediv_of_nonneg (by omega),Int.add_mul_ediv_left _ _ (by omega),<- e]
theorem VV {a:Int} {s:List Int} (hs:bR s):Pr (num a) s=(List.range 16).map (nb (a+vs (fun j=>s.getD j 0) 16)):=by
 unfold Pr
 refine List.map_congr_left fun i hi=>?_
 have hi:i<16:=by simpa using hi
 obtain ⟨e,h0,h1⟩:=aDv (a:=a) hs i (by omega)
 have hd:(num a).getD i 0=a/256^i%256:=Wj a (by omega)
 obtain ⟨hf0,hf1⟩:=hs.get i
 have hP:(0:Int)<256^i:=Int.pow_pos (by decide)
 have DA:0<=a/256^i%256/\a/256^i%256<256:=⟨Int.emod_nonneg _ (by decide),Int.emod_lt_of_pos _ (by decide)⟩
 rw [hd,tH (x:=sc (num a) s i+a/256^i%256) (by omega) (by omega),tH (x:=s.getD i 0) (by omega) (by omega),tH (x:=sc (num a) s i+a/256^i%256+s.getD i 0) (by omega) (by omega),Int.tmod_eq_emod_of_nonneg (by omega),IntKind.wrap_u8,e]
 unfold nb
 have e1:=Ih (fun j=>s.getD j 0) (16-(i+1)) (i+1)
 rw [show i+1+(16-(i+1))=16 from by omega,zS (fun j=>s.getD j 0) i] at e1
 have e3:vs (fun j=>a/256^j%256) i=a%256^i:=aHr a i
 have e4:a=a%256^i+256^i*(a/256^i):=(Int.emod_add_mul_ediv a _).symm
 generalize vs (fun j=>s.getD (i+1+j) 0) (16-(i+1))=R at e1
 generalize vs (fun j=>s.getD j 0) i=S at *
 generalize s.getD i 0=f at *
 rw [e3,e1,Int.pow_succ]
 generalize hP':(256:Int)^i=P at *
 generalize hQ:a/P=Q at *
 have e5:a+(S+P*f+P*256*R)=(a%P+S)+P*(Q+f+256*R):=by
  have:P*(Q+f+256*R)=P*Q+P*f+P*256*R:=by rw [Int.mul_add,Int.mul_add,Int.mul_assoc]
  omega
 rw [e5,Int.add_mul_ediv_left _ _ (by omega)]
 omega
theorem bBu (b0 b1 b2 b3 b4 b5 b6 b7 b8 b9 dC dB dA dH dG gN:Int) :
 V [b0,b1,b2,b3,b4,b5,b6,b7,b8,b9,dC,dB,dA,dH,dG,gN,1]=n3 (V [b0,b1,b2,b3,b4,b5,b6,b7]) (V [b8,b9,dC,dB,dA,dH,dG,gN]) 1:=by
 simp only [tK,By]
 unfold n3
 omega
theorem aQe (b0 b1 b2 b3 b4 b5 b6 b7 b8 b9 dC dB dA dH dG gN:Int) :
 V [b0,b1,b2,b3,b4,b5,b6,b7,b8,b9,dC,dB,dA,dH,dG,gN]=V [b0,b1,b2,b3,b4,b5,b6,b7]+18446744073709551616*V [b8,b9,dC,dB,dA,dH,dG,gN]:=by
 simp only [tK,By]
 omega
end M
def iB (X:SV):SB:=.own [.bool true false,X] 146
def aFx:SV:=.raw (.slice none 0 0)
def faW (m:Nat) (ys:List SV):List (Nat × SB):=[(63,iB (.aH 65 false 0 m 6)),(65,.own ys 196)]
def aPl (iJ:Nat) (y0 y1:Int):bJ:=match iJ with
 | 0=>{ val:=.ptr 61 true 0,wr:=(61,iB aFx)::faW 0 (wc [y0,y1,0,0,0,0]) }
 | 1=>{ val:=.ptr 61 true 0,new:=[.own [.int false .u64 y0] 196],wr:=(61,iB (.aH 100 true 0 1 1))::faW 1 (wc [y0,y1,0,0,0,0]) }
 | _=>{ val:=.ptr 61 true 0,new:=[.own (wc [y0,y1,0,0,0,0]) 196],wr:=(61,iB (.aH 100 true 0 2 6))::faW 2 (wc [y0,y1,0,0,0,0]) }
theorem Ji {m:Nat} {ys:List SV} {e:bJ} (h:aE Tryz.prog Γv 102 zD (fun l=>look l (Qa (.aH 65 true 0 m 6) ys)) 100 100 e):aE Tryz.prog Γv 102 zD (fun l=>look l (Qa (.aH 65 false 0 m 6) ys)) 100 100 e:=
 aE.reL (L:=Qa (.aH 65 true 0 m 6) ys) (L':=Qa (.aH 65 false 0 m 6) ys) h ⟨rfl,⟨rfl,fun _=>rfl⟩,rfl,⟨rfl,fun _=>rfl⟩,rfl,cC _,rfl,cC _,rfl,cC _,trivial⟩ (fun _=>rfl)
open M in
theorem MU {iJ:Nat} (Eo:iJ<3) {y0 y1:Int} (h:iJ=nl [y0,y1]):aE Tryz.prog Γv 102 zD (fun l=>look l (Qa (.aH 65 false 0 iJ 6) (wc [y0,y1,0,0,0,0]))) 100 100 (aPl iJ y0 y1):=by
 rcases RU y0 y1 with ⟨h',rfl,rfl⟩ | ⟨h',m0,rfl⟩ | ⟨h',m1⟩ <;> rw [h'] at h <;> subst h
 .exact Ji (((((ED [] []).call (aTz 0) (by simp)).bE 63 _ rfl (by decide)).bE 65 _ rfl (by decide)).re rfl (fun _=>rfl) trivial ⟨rfl,⟨rfl,fun _=>rfl⟩,rfl,⟨rfl,fun _=>rfl⟩,rfl,⟨rfl,fun _=>rfl⟩,trivial⟩)
 .exact Ji (((((ED [] []).call (aTy y0) (by simp)).bE 63 _ rfl (by decide)).bE 65 _ rfl (by decide)).re rfl (fun _=>rfl) ⟨⟨rfl,fun _=>rfl⟩,trivial⟩ ⟨rfl,⟨rfl,fun _=>rfl⟩,rfl,⟨rfl,fun _=>rfl⟩,rfl,⟨rfl,fun _=>rfl⟩,trivial⟩)
 .exact Ji (((((ED [] []).call (aTx y0 y1) (by simp)).bE 63 _ rfl (by decide)).bE 65 _ rfl (by decide)).re rfl (fun _=>rfl) ⟨⟨rfl,fun _=>rfl⟩,trivial⟩ ⟨rfl,⟨rfl,fun _=>rfl⟩,rfl,⟨rfl,fun _=>rfl⟩,rfl,⟨rfl,fun _=>rfl⟩,trivial⟩)
open M in
def HA (iJ:Nat) (vs:List SV) (T:aZ):Option Canon:=match vs with
 | [.ptr l1 true 0,.ptr l2 true 0,.ptr l3 true 0]=>match Nat.beq l1 l2,T l1,T l3 with
   | true,some (.own [.bool _ _,X] 146),some (.own [.bool _ _,.aH ly _ 0 m 6] 146)=>match T ly with
     | some (.own ys 196)=>match cX .u64 ys with
       | some (y0::y1::_)=>match X with
         | .raw (.slice none 0 0)=>match Nat.blt iJ 3 with
           | true=>some { eR:=zD,T0:=Qa (.aH 65 false 0 iJ 6) (wc [y0,y1,0,0,0,0]),vl:=[(61,.lab l1 0),(63,.lab l3 0),(65,.lab ly 0)],e0:=aPl iJ y0 y1,conds:=[iJ=nl [y0,y1]] }
           | false=>none
         | .aH lx _ 0 n ca=>match T lx with
           | some (.own xs 196)=>match cX .u64 xs with
             | some (x0::x1::x2::_)=>some { eR:=zD,T0:=SK (.aH 64 false 0 n ca) (.aH 65 false 0 m 6) (wc (x0::x1::x2::List.replicate (ca-3) 0)) (wc [y0,y1,0,0,0,0]),vl:=[(61,.lab l1 0),(63,.lab l3 0),(64,.lab lx 0),(65,.lab ly 0)],e0:=faE (n3 x0 x1 x2+(y0+18446744073709551616*y1)) ca (.aH 65 false 0 m 6) (wc [y0,y1,0,0,0,0]),conds:=[ca=6\/ca=7\/ca=8\/ca=9,U x0,U x1,0<=x2/\x2<4,U y0,U y1,n=nl [x0,x1,x2],m=nl [y0,y1]] }
             | _=>none
           | _=>none
         | _=>none
       | _=>none
     | _=>none
   | _,_,_=>none
 | _=>none
theorem aLj (iJ:Nat) (Γ:Env) (hg:Γ.aR=aB):aI Tryz.prog Γ 102 (aL aB 100 (HA iJ)):=by
 refine aW hg fun vs T c hd hc=>?_
 unfold HA at hd
 split at hd
 case h_2=>cases hd
 split at hd
 case h_2=>cases hd
 split at hd
 case h_2=>cases hd
 split at hd
 case h_2=>cases hd
 split at hd
 case h_3=>cases hd
 .split at hd
  case h_2=>cases hd
  rename_i cJ
  cases hd
  exact (MU (by simpa [Nat.blt_eq] using cJ) (hc _ (by simp))).words (by rw [hg];rfl) (fun _=>rfl) (fun _ _ h=>h) (fun _=>rfl) rfl rfl
 .split at hd
  case h_2=>cases hd
  split at hd
  case h_2=>cases hd
  cases hd
  exact (aBr (hc _ (by simp)) (hc _ (by simp)) (hc _ (by simp)) (hc _ (by simp)) (hc _ (by simp)) (hc _ (by simp)) (hc _ (by simp)) (hc _ (by simp))).words (by rw [hg];rfl) (fun _=>rfl) (fun _ _ h=>h) (fun _=>rfl) rfl rfl
open M in
theorem LM {ca:Nat} (lC:ca=6\/ca=7\/ca=8\/ca=9) {k:Nat} {n0 n1 n2:Int} (h0:U n0) (h1:U n1) (h2:0<=n2/\n2<8) (hk:k=nl [n0,n1,n2]) :
 aE Tryz.prog Γv 99 mR (fun l=>look l (Xt (.aH 63 false 0 k ca) (wc (n0::n1::n2::List.replicate (ca-3) 0)))) 100 100 (BZ (n0+18446744073709551616*n1) (QU (.aH 63 false 0 k ca) (wc (n0::n1::n2::List.replicate (ca-3) 0)))):=by
 rcases nl3 n0 n1 n2 with ⟨h,rfl,rfl,rfl⟩ | ⟨h,m0,rfl,rfl⟩ | ⟨h,m1,rfl⟩ | ⟨h,m2⟩ <;> rw [h] at hk <;> subst hk
 .exact LQ ca _
 .have:=Nb (b:=false) ca h0 (wc (0::0::List.replicate (ca-3) 0))
  rw [show n0+18446744073709551616*0=n0 from by omega]
  exact this
 .exact LP (b:=false) ca h0 h1 (wc (0::List.replicate (ca-3) 0))
 .exact LO lC h0 h1 m2 h2.1 h2.2
open M in
def GJ (vs:List SV) (T:aZ):Option Canon:=match vs with
 | [.ptr l1 true 0,.aH lo true 0 16 16]=>match T l1 with
   | some (.own [.bool _ _,X] 146)=>match X with
     | .raw (.slice none 0 0)=>some { eR:=mR,T0:=aGc,vl:=[(61,.lab l1 0),(62,.lab lo 0)],e0:=BZ 0 [(61,.own [.bool true false,.raw (.slice none 0 0)] 146)] }
     | .aH lx _ 0 k c=>match T lx with
       | some (.own xs 196)=>match cX .u64 xs with
         | some [a0]=>some { eR:=mR,T0:=Xt (.aH 63 false 0 1 c) (ww a0 []),vl:=[(61,.lab l1 0),(62,.lab lo 0),(63,.lab lx 0)],e0:=BZ a0 (QU (.aH 63 false 0 1 c) (ww a0 [])),conds:=[U a0] }
         | some (a0::a1::a2::_)=>some { eR:=mR,T0:=Xt (.aH 63 false 0 k c) (wc (a0::a1::a2::List.replicate (c-3) 0)),vl:=[(61,.lab l1 0),(62,.lab lo 0),(63,.lab lx 0)],e0:=BZ (a0+18446744073709551616*a1) (QU (.aH 63 false 0 k c) (wc (a0::a1::a2::List.replicate (c-3) 0))),conds:=[c=6\/c=7\/c=8\/c=9,U a0,U a1,0<=a2/\a2<8,k=nl [a0,a1,a2]] }
         | _=>none
       | _=>none
     | _=>none
   | _=>none
 | _=>none
theorem aSq (Γ:Env) (hg:Γ.aR=aB):aI Tryz.prog Γ 99 (aL aB 100 GJ):=by
 refine aW hg fun vs T c hd hc=>?_
 unfold GJ at hd
 split at hd
 case h_2=>cases hd
 split at hd
 case h_2=>cases hd
 split at hd
 case h_3=>cases hd
 .cases hd
  exact LN.words (by rw [hg];rfl) (fun _=>rfl) (fun _ _ h=>h) (fun _=>rfl) rfl rfl
 .split at hd
  case h_2=>cases hd
  split at hd
  case h_3=>cases hd
  .cases hd
   exact (Nb _ (hc _ (by simp)) _).words (by rw [hg];rfl) (fun _=>rfl) (fun _ _ h=>h) (fun _=>rfl) rfl rfl
  .cases hd
   exact (LM (hc _ (by simp)) (hc _ (by simp)) (hc _ (by simp)) (hc _ (by simp)) (hc _ (by simp))).words (by rw [hg];rfl) (fun _=>rfl) (fun _ _ h=>h) (fun _=>rfl) rfl rfl
def prL:List (Nat × SB):=[(17,.fN [.int true .i64 40]),(18,.fN [.int true .i64 40])]
def prE:bJ:={ val:=.ptr 100 true 0,new:=[.own [.bool true false,.aH 101 true 0 3 8] 146,.own Dz 196] }
theorem aJo:aJ (env gB 22) Tryz.f90 true [] 400 [.int true .u64 130,.int true .i64 5] (fun l=>look l prL) 100 100=some prE:=by kernel_rfl
theorem YK:aE Tryz.prog Γv 90 [.int true .u64 130,.int true .i64 5] (fun l=>look l prL) 100 100 prE:=
 ((aN (bQ gB 22) (bW gB (fun f S h Γ _=>qU f S h Γ) 22) mix Tryz.func90 (by kernel_rfl) true [] 400:aI Tryz.prog (env gB 22) 90 _).call aJo (by simp [prE])).re rfl (fun _=>rfl) ⟨⟨rfl,fun _=>rfl⟩,⟨rfl,fun _=>rfl⟩,trivial⟩ trivial
def FM (vs:List SV) (_:aZ):Option Canon:=match vs with
 | [.int true .u64 130,.int true .i64 5]=>some { eR:=[.int true .u64 130,.int true .i64 5],T0:=prL,vl:=[],e0:=prE }
 | _=>none
theorem aRs (Γ:Env) (hg:Γ.aR=aB):aI Tryz.prog Γ 90 (aL aB 100 FM):=by
 refine aW hg fun vs T c hd hc=>?_
 unfold FM at hd
 split at hd
 case h_2=>cases hd
 cases hd
 exact YK.words (by rw [hg];rfl) (fun _=>rfl) (fun _ _ h=>h) (fun _=>rfl) rfl rfl
noncomputable def exG (iJ fZ nI:Nat):Nat->Option Sum:=dM (dM (dM (exT iJ fZ) 102 (aL aB 100 (HA nI))) 99 (aL aB 100 GJ)) 90 (aL aB 100 FM)
theorem aMd (iJ fZ nI:Nat):∀ f S,exG iJ fZ nI f=some S->∀ Γ:Env,Γ.aR=aB->aI Tryz.prog Γ f S:=bD (bD (bD (aMc iJ fZ) 102 _ (aLj nI)) 99 _ aSq) 90 _ aRs
end Go.Proofs.YticicdfijghigaaGreatDoor.Sx
