/- (*Int).Add in place, slow.laid, as summaries. -/
import Derived.Test.YticicdfijghigaaGreatDoorQJ
open Go
set_option maxRecDepth 100000
namespace Go.Proofs.YticicdfijghigaaGreatDoor.Sx
namespace M
theorem aXz {N:Int} (h0:w0 N=0) (h1:w1 N=0) (h2:w2 N=0):ln N=0:=by unfold ln;rw [h0,h1,h2];decide
theorem aGa {N:Int} (h0:w0 N≠0) (h1:w1 N=0) (h2:w2 N=0):ln N=1:=by unfold ln;rw [h1,h2];simp only [nl,if_true,if_neg h0]
theorem Yp {N:Int} (h1:w1 N≠0) (h2:w2 N=0):ln N=2:=by unfold ln;rw [h2];simp only [nl,if_true,if_neg h1]
theorem Pz {N:Int} (h2:w2 N≠0):ln N=3:=by unfold ln;simp only [nl,if_neg h2]
end M
theorem EE (h h2:List Bool):aH Tryz.prog (env (EG h h2) 22) 102 (aJ (env (EG h h2) 22) Tryz.f102 true [] 400):=aM (bQ _ 22) (bW _ (aCf h h2) 22) mix Tryz.func102 (by kernel_rfl) true [] 400
def wN (N:Int) (cap:Nat):List SV:=wc (M.w0 N::M.w1 N::M.w2 N::List.replicate (cap-3) 0)
def faE (N:Int) (cap:Nat) (Y:SV) (ys:List SV):bJ:={ val:=.ptr 61 true 0,wr:=[(61,.own [.bool true false,.aG 64 false 0 (M.ln N) cap] 146),(64,.own (wN N cap) 196),(63,.own [.bool true false,Y] 146),(65,.own ys 196)] }
theorem JW {n m ca:Nat} {xs ys:List SV} {e:bJ} (h:aF Tryz.prog Γv 102 zG (fun l=>look l (SK (.aG 64 true 0 n ca) (.aG 65 true 0 m 6) xs ys)) 100 100 e):aF Tryz.prog Γv 102 zG (fun l=>look l (SK (.aG 64 false 0 n ca) (.aG 65 false 0 m 6) xs ys)) 100 100 e:=
 aF.reL (L:=SK (.aG 64 true 0 n ca) (.aG 65 true 0 m 6) xs ys) (L':=SK (.aG 64 false 0 n ca) (.aG 65 false 0 m 6) xs ys) h ⟨rfl,⟨rfl,fun _=>rfl⟩,rfl,⟨rfl,fun _=>rfl⟩,rfl,cC _,rfl,cC _,rfl,cC _,rfl,cC _,trivial⟩ (fun _=>rfl)
theorem lM {h hh:List Bool} {la ly k cap:Nat} {xs ys cells:List SV} {N:Int} {ob:List Prop} (e:jR h hh (.aG 64 true 0 la cap) (.aG 65 true 0 ly 6) xs ys=some { bM:=ob,val:=.ptr 61 true 0,wr:=[(61,.own [.bool true false,.aG 64 true 0 k cap] 146),(64,.own cells 196)] }) (ho:∀ q∈ob,q)
 (hk:k=M.ln N) (hc:∀ V,aE V (wN N cap)=aE V cells):aF Tryz.prog Γv 102 zG (fun l=>look l (SK (.aG 64 false 0 la cap) (.aG 65 false 0 ly 6) xs ys)) 100 100 (faE N cap (.aG 65 false 0 ly 6) ys):=by
 subst hk
 exact JW (((((EE h hh).call e ho).bE 63 _ rfl (by decide)).bE 65 _ rfl (by decide)).re rfl (fun _=>rfl) trivial ⟨rfl,⟨rfl,fun _=>rfl⟩,rfl,⟨rfl,hc⟩,rfl,⟨rfl,fun _=>rfl⟩,rfl,⟨rfl,fun _=>rfl⟩,trivial⟩)
theorem aMa {h hh:List Bool} {la ly k cap:Nat} {xs ys:List SV} {N:Int} (e:jR h hh (.aG 64 true 0 la cap) (.aG 65 true 0 ly 6) xs ys=some { val:=.ptr 61 true 0,wr:=[(61,.own [.bool true false,.aG 64 true 0 k cap] 146)] })
 (hk:k=M.ln N) (hc:∀ V,aE V (wN N cap)=aE V xs):aF Tryz.prog Γv 102 zG (fun l=>look l (SK (.aG 64 false 0 la cap) (.aG 65 false 0 ly 6) xs ys)) 100 100 (faE N cap (.aG 65 false 0 ly 6) ys):=by
 subst hk
 exact JW ((((((EE h hh).call e (by simp)).bE 64 _ rfl (by decide)).bE 63 _ rfl (by decide)).bE 65 _ rfl (by decide)).re rfl (fun _=>rfl) trivial ⟨rfl,⟨rfl,fun _=>rfl⟩,rfl,⟨rfl,hc⟩,rfl,⟨rfl,fun _=>rfl⟩,rfl,⟨rfl,fun _=>rfl⟩,trivial⟩)
theorem kU {N:Int} {cap:Nat} (h:6<=cap) {a b c:Int} (h0:M.w0 N=a) (h1:M.w1 N=b) (h2:M.w2 N=c):wN N cap = .int false .u64 a :: .int false .u64 b :: .int false .u64 c :: .int false .u64 0::wc (List.replicate (cap-4) 0):=by
 obtain ⟨n,rfl⟩:∃ n,cap=n+4:=⟨cap-4,by omega⟩
 subst h0 h1 h2
 rfl
open M in
theorem aBr {cap:Nat} (lB:cap=6\/cap=7\/cap=8\/cap=9) {la ly:Nat} {x0 x1 x2 y0 y1:Int} (gD:U x0) (gE:U x1) (nJ:0<=x2/\x2<4) (fG:U y0) (iC:U y1) (SD:la=nl [x0,x1,x2]) (hly:ly=nl [y0,y1]) :
 aF Tryz.prog Γv 102 zG (fun l=>look l (SK (.aG 64 false 0 la cap) (.aG 65 false 0 ly 6) (wc (x0::x1::x2::List.replicate (cap-3) 0)) (wc [y0,y1,0,0,0,0]))) 100 100 (faE (n3 x0 x1 x2+(y0+18446744073709551616*y1)) cap (.aG 65 false 0 ly 6) (wc [y0,y1,0,0,0,0])):=by
 have h6:6<=cap:=by omega
 obtain ⟨ux0,vx0⟩:=gD
 obtain ⟨ux1,vx1⟩:=gE
 obtain ⟨uy0,vy0⟩:=fG
 obtain ⟨uy1,vy1⟩:=iC
 obtain ⟨N,hN⟩:∃ N,N=n3 x0 x1 x2+(y0+18446744073709551616*y1):=⟨_,rfl⟩
 have DH:=hN
 unfold n3 at DH
 rw [<- hN]
 rcases nl3 x0 x1 x2 with ⟨h,rfl,rfl,rfl⟩ | ⟨h,n0,rfl,rfl⟩ | ⟨h,n1,rfl⟩ | ⟨h,n2⟩ <;> rcases RV y0 y1 with ⟨h',rfl,rfl⟩ | ⟨h',m0,rfl⟩ | ⟨h',m1⟩ <;> rw [h] at SD <;> rw [h'] at hly <;> subst SD <;> subst hly
 .exact aMa (aLz lB 0) (aXz (by unfold w0;omega) (by unfold w1;omega) (by unfold w2;omega)).symm (fun _=>by rw [kU h6 (a:=0) (b:=0) (c:=0) (by unfold w0;omega) (by unfold w1;omega) (by unfold w2;omega) ] <;> (obtain ⟨n,rfl⟩:∃ n,cap=n+4:=⟨cap-4,by omega⟩;rfl))
 .exact lM (aLy lB y0) (by simp) (aGa (by unfold w0;omega) (by unfold w1;omega) (by unfold w2;omega)).symm (fun _=>by rw [kU h6 (a:=y0) (b:=0) (c:=0) (by unfold w0;omega) (by unfold w1;omega) (by unfold w2;omega) ] <;> (obtain ⟨n,rfl⟩:∃ n,cap=n+4:=⟨cap-4,by omega⟩;rfl))
 .exact lM (aLx lB y0 y1) (by simp) (Yp (by unfold w1;omega) (by unfold w2;omega)).symm (fun _=>by rw [kU h6 (a:=y0) (b:=y1) (c:=0) (by unfold w0;omega) (by unfold w1;omega) (by unfold w2;omega) ] <;> (obtain ⟨n,rfl⟩:∃ n,cap=n+4:=⟨cap-4,by omega⟩;rfl))
 .exact lM (aLw lB x0) (by simp) (aGa (by unfold w0;omega) (by unfold w1;omega) (by unfold w2;omega)).symm (fun _=>by rw [kU h6 (a:=x0) (b:=0) (c:=0) (by unfold w0;omega) (by unfold w1;omega) (by unfold w2;omega) ] <;> (obtain ⟨n,rfl⟩:∃ n,cap=n+4:=⟨cap-4,by omega⟩;rfl))
 .by_cases Aq:uh (x0+y0+0)=0
  .have Dy:w0 N=ul (x0+y0+0):=by unfold w0 ul;omega
   have wR:w1 N=uh (x0+y0+0):=by unfold w1;unfold ul uh at *;omega
   have sI:w2 N=0:=by unfold w2;unfold ul uh at *;omega
   refine lM (aLv lB x0 y0) (aA ?_) ?_ (fun _=>by rw [kU h6 Dy wR sI] <;> rfl)
   .simp only [sh,bX,beq_eq_false_iff_ne,beq_iff_eq,bne_iff_ne,ne_eq,and_true,true_and]
    unfold U K ul uh at *
    omega
   .symm
    refine aGa (by rw [Dy] <;> first | decide | (unfold ul uh at *;omega) | (rw [bP];unfold ul uh at *;omega)) (by rw [wR] <;> first | decide | (unfold ul uh at *;omega) | (rw [bP];unfold ul uh at *;omega)) (by rw [sI] <;> first | decide | (unfold ul uh at *;omega) | (rw [bP];unfold ul uh at *;omega))
  .have Dy:w0 N=ul (x0+y0+0):=by unfold w0 ul;omega
   have wR:w1 N=uh (x0+y0+0):=by unfold w1;unfold ul uh at *;omega
   have sI:w2 N=0:=by unfold w2;unfold ul uh at *;omega
   refine lM (aLu lB x0 y0) (aA ?_) ?_ (fun _=>by rw [kU h6 Dy wR sI] <;> rfl)
   .simp only [sh,bX,beq_eq_false_iff_ne,beq_iff_eq,bne_iff_ne,ne_eq,and_true,true_and]
    unfold U K ul uh at *
    omega
   .symm
    refine Yp (by rw [wR] <;> first | decide | (unfold ul uh at *;omega) | (rw [bP];unfold ul uh at *;omega)) (by rw [sI] <;> first | decide | (unfold ul uh at *;omega) | (rw [bP];unfold ul uh at *;omega))
 .by_cases Aq:uh (y1+uh (y0+x0+0)+0)=0
  .have Dy:w0 N=ul (y0+x0+0):=by unfold w0 ul;omega
   have wR:w1 N=ul (y1+uh (y0+x0+0)+0):=by unfold w1;unfold ul uh at *;omega
   have sI:w2 N=0:=by unfold w2;unfold ul uh at *;omega
   refine lM (aLt lB x0 y0 y1) (aA ?_) ?_ (fun _=>by rw [kU h6 Dy wR sI] <;> rfl)
   .simp only [sh,bX,beq_eq_false_iff_ne,beq_iff_eq,bne_iff_ne,ne_eq,and_true,true_and]
    unfold U K ul uh at *
    omega
   .symm
    refine Yp (by rw [wR] <;> first | decide | (unfold ul uh at *;omega) | (rw [bP];unfold ul uh at *;omega)) (by rw [sI] <;> first | decide | (unfold ul uh at *;omega) | (rw [bP];unfold ul uh at *;omega))
  .have Dy:w0 N=ul (y0+x0+0):=by unfold w0 ul;omega
   have wR:w1 N=ul (y1+uh (y0+x0+0)+0):=by unfold w1;unfold ul uh at *;omega
   have sI:w2 N=1:=by unfold w2;unfold ul uh at *;omega
   refine lM (aLs lB x0 y0 y1) (aA ?_) ?_ (fun _=>by rw [kU h6 Dy wR sI] <;> rfl)
   .simp only [sh,bX,beq_eq_false_iff_ne,beq_iff_eq,bne_iff_ne,ne_eq,and_true,true_and]
    unfold U K ul uh at *
    omega
   .symm
    refine Pz (by rw [sI] <;> first | decide | (unfold ul uh at *;omega) | (rw [bP];unfold ul uh at *;omega))
 .exact lM (aLr lB x0 x1) (by simp) (Yp (by unfold w1;omega) (by unfold w2;omega)).symm (fun _=>by rw [kU h6 (a:=x0) (b:=x1) (c:=0) (by unfold w0;omega) (by unfold w1;omega) (by unfold w2;omega) ] <;> (obtain ⟨n,rfl⟩:∃ n,cap=n+4:=⟨cap-4,by omega⟩;rfl))
 .by_cases Aq:uh (x1+uh (x0+y0+0)+0)=0
  .have Dy:w0 N=ul (x0+y0+0):=by unfold w0 ul;omega
   have wR:w1 N=ul (x1+uh (x0+y0+0)+0):=by unfold w1;unfold ul uh at *;omega
   have sI:w2 N=0:=by unfold w2;unfold ul uh at *;omega
   refine lM (aLq lB x0 x1 y0) (aA ?_) ?_ (fun _=>by rw [kU h6 Dy wR sI] <;> rfl)
   .simp only [sh,bX,beq_eq_false_iff_ne,beq_iff_eq,bne_iff_ne,ne_eq,and_true,true_and]
    unfold U K ul uh at *
    omega
   .symm
    refine Yp (by rw [wR] <;> first | decide | (unfold ul uh at *;omega) | (rw [bP];unfold ul uh at *;omega)) (by rw [sI] <;> first | decide | (unfold ul uh at *;omega) | (rw [bP];unfold ul uh at *;omega))
  .have Dy:w0 N=ul (x0+y0+0):=by unfold w0 ul;omega
   have wR:w1 N=ul (x1+uh (x0+y0+0)+0):=by unfold w1;unfold ul uh at *;omega
   have sI:w2 N=1:=by unfold w2;unfold ul uh at *;omega
   refine lM (aLp lB x0 x1 y0) (aA ?_) ?_ (fun _=>by rw [kU h6 Dy wR sI] <;> rfl)
   .simp only [sh,bX,beq_eq_false_iff_ne,beq_iff_eq,bne_iff_ne,ne_eq,and_true,true_and]
    unfold U K ul uh at *
    omega
   .symm
    refine Pz (by rw [sI] <;> first | decide | (unfold ul uh at *;omega) | (rw [bP];unfold ul uh at *;omega))
 .by_cases Aq:uh (x1+y1+uh (x0+y0+0))=0
  .have Dy:w0 N=ul (x0+y0+0):=by unfold w0 ul;omega
   have wR:w1 N=ul (x1+y1+uh (x0+y0+0)):=by unfold w1;unfold ul uh at *;omega
   have sI:w2 N=uh (x1+y1+uh (x0+y0+0)):=by unfold w2;unfold ul uh at *;omega
   refine lM (aLo lB x0 x1 y0 y1) (aA ?_) ?_ (fun _=>by rw [kU h6 Dy wR sI] <;> rfl)
   .simp only [sh,bX,beq_eq_false_iff_ne,beq_iff_eq,bne_iff_ne,ne_eq,and_true,true_and]
    unfold U K ul uh at *
    omega
   .symm
    refine Yp (by rw [wR] <;> first | decide | (unfold ul uh at *;omega) | (rw [bP];unfold ul uh at *;omega)) (by rw [sI] <;> first | decide | (unfold ul uh at *;omega) | (rw [bP];unfold ul uh at *;omega))
  .have Dy:w0 N=ul (x0+y0+0):=by unfold w0 ul;omega
   have wR:w1 N=ul (x1+y1+uh (x0+y0+0)):=by unfold w1;unfold ul uh at *;omega
   have sI:w2 N=uh (x1+y1+uh (x0+y0+0)):=by unfold w2;unfold ul uh at *;omega
   refine lM (aLn lB x0 x1 y0 y1) (aA ?_) ?_ (fun _=>by rw [kU h6 Dy wR sI] <;> rfl)
   .simp only [sh,bX,beq_eq_false_iff_ne,beq_iff_eq,bne_iff_ne,ne_eq,and_true,true_and]
    unfold U K ul uh at *
    omega
   .symm
    refine Pz (by rw [sI] <;> first | decide | (unfold ul uh at *;omega) | (rw [bP];unfold ul uh at *;omega))
 .exact lM (aLm lB x0 x1 x2) (by simp) (Pz (by unfold w2;omega)).symm (fun _=>by rw [kU h6 (a:=x0) (b:=x1) (c:=x2) (by unfold w0;omega) (by unfold w1;omega) (by unfold w2;omega) ] <;> (obtain ⟨n,rfl⟩:∃ n,cap=n+4:=⟨cap-4,by omega⟩;rfl))
 .by_cases Aq:uh (x1+uh (x0+y0+0)+0)=0
  .have Dy:w0 N=ul (x0+y0+0):=by unfold w0 ul;omega
   have wR:w1 N=ul (x1+uh (x0+y0+0)+0):=by unfold w1;unfold ul uh at *;omega
   have sI:w2 N=x2:=by unfold w2;unfold ul uh at *;omega
   refine lM (aLl lB x0 x1 x2 y0) (aA ?_) ?_ (fun _=>by rw [kU h6 Dy wR sI] <;> rfl)
   .simp only [sh,bX,beq_eq_false_iff_ne,beq_iff_eq,bne_iff_ne,ne_eq,and_true,true_and]
    unfold U K ul uh at *
    omega
   .symm
    refine Pz (by rw [sI] <;> first | decide | (unfold ul uh at *;omega) | (rw [bP];unfold ul uh at *;omega))
  .have Dy:w0 N=ul (x0+y0+0):=by unfold w0 ul;omega
   have wR:w1 N=ul (x1+uh (x0+y0+0)+0):=by unfold w1;unfold ul uh at *;omega
   have sI:w2 N=IntKind.u64.wrap (x2+1):=by rw [bP];unfold w2;unfold ul uh at *;omega
   refine lM (aBs lB x0 x1 x2 y0) (aA ?_) ?_ (fun _=>by rw [kU h6 Dy wR sI] <;> rfl)
   .simp only [sh,bX,beq_eq_false_iff_ne,beq_iff_eq,bne_iff_ne,ne_eq,and_true,true_and,bP]
    unfold U K ul uh at *
    omega
   .symm
    refine Pz (by rw [sI] <;> first | decide | (unfold ul uh at *;omega) | (rw [bP];unfold ul uh at *;omega))
 .have Dy:w0 N=ul (x0+y0+0):=by unfold w0 ul;omega
  have wR:w1 N=ul (x1+y1+uh (x0+y0+0)):=by unfold w1;unfold ul uh at *;omega
  have sI:w2 N=ul (x2+uh (x1+y1+uh (x0+y0+0))+0):=by unfold w2;unfold ul uh at *;omega
  refine lM (aLk lB x0 x1 x2 y0 y1) (aA ?_) ?_ (fun _=>by rw [kU h6 Dy wR sI] <;> rfl)
  .simp only [sh,bX,beq_eq_false_iff_ne,beq_iff_eq,bne_iff_ne,ne_eq,and_true,true_and]
   unfold U K ul uh at *
   omega
  .symm
   refine Pz (by rw [sI] <;> first | decide | (unfold ul uh at *;omega) | (rw [bP];unfold ul uh at *;omega))
namespace M
theorem tH {x:Int} (h0:0<=x) (h:x<1000000):IntKind.i64.wrap x=x:=IntWalk.i64_in _ ⟨by omega,by omega⟩
theorem aDv {a:Int} {s:List Int} (hs:bR s):∀ i:Nat,i<=16 ->
 sc (num a) s i=(vs (fun j=>a/256^j%256) i+vs (fun j=>s.getD j 0) i)/256^i/\0<=sc (num a) s i/\sc (num a) s i<=1
 | 0,_=>by simp [sc,vs]
 | i+1,h=>by
   obtain ⟨e,h0,h1⟩:=aDv (a:=a) hs i (by omega)
   have hd:(num a).getD i 0=a/256^i%256:=Wl a (by omega)
   obtain ⟨hf0,hf1⟩:=hs.get i
   have hP:(0:Int)<256^i:=Int.pow_pos (by decide)
   have DB:0<=a/256^i%256/\a/256^i%256<256:=⟨Int.emod_nonneg _ (by decide),Int.emod_lt_of_pos _ (by decide)⟩
   have hsc:sc (num a) s (i+1)=(sc (num a) s i+(a/256^i%256+s.getD i 0))/256:=by
    show IntKind.i64.wrap ((IntKind.i64.wrap (IntKind.i64.wrap (sc (num a) s i+(num a).getD i 0)+IntKind.i64.wrap (s.getD i 0))).tdiv 256)=_
    rw [hd,tH (x:=sc (num a) s i+a/256^i%256) (by omega) (by omega),tH (x:=s.getD i 0) (by omega) (by omega),tH (x:=sc (num a) s i+a/256^i%256+s.getD i 0) (by omega) (by omega),Int.tdiv_eq_ediv_of_nonneg (by omega),tH (by omega) (by omega),Int.add_assoc]
   refine ⟨?_,by rw [hsc];omega,by rw [hsc];omega⟩
   rw [hsc,zV,zV,Int.pow_succ]
   have e2:vs (fun j=>a/256^j%256) i+256^i*(a/256^i%256)+(vs (fun j=>s.getD j 0) i+256^i*s.getD i 0)=(vs (fun j=>a/256^j%256) i+vs (fun j=>s.getD j 0) i)+256^i*(a/256^i%256+s.getD i 0):=by
    rw [Int.mul_add];omega
   rw [e2,<- Int.ediv_ediv_of_nonneg (by omega),Int.add_mul_ediv_left _ _ (by omega),<- e]
theorem VW {a:Int} {s:List Int} (hs:bR s):Pw (num a) s=(List.range 16).map (nb (a+vs (fun j=>s.getD j 0) 16)):=by
 unfold Pw
 refine List.map_congr_left fun i hi=>?_
 have hi:i<16:=by simpa using hi
 obtain ⟨e,h0,h1⟩:=aDv (a:=a) hs i (by omega)
 have hd:(num a).getD i 0=a/256^i%256:=Wl a (by omega)
 obtain ⟨hf0,hf1⟩:=hs.get i
 have hP:(0:Int)<256^i:=Int.pow_pos (by decide)
 have DB:0<=a/256^i%256/\a/256^i%256<256:=⟨Int.emod_nonneg _ (by decide),Int.emod_lt_of_pos _ (by decide)⟩
 rw [hd,tH (x:=sc (num a) s i+a/256^i%256) (by omega) (by omega),tH (x:=s.getD i 0) (by omega) (by omega),tH (x:=sc (num a) s i+a/256^i%256+s.getD i 0) (by omega) (by omega),Int.tmod_eq_emod_of_nonneg (by omega),IntKind.wrap_u8,e]
 unfold nb
 have e1:=Cc (fun j=>s.getD j 0) (16-(i+1)) (i+1)
 rw [show i+1+(16-(i+1))=16 from by omega,zV (fun j=>s.getD j 0) i] at e1
 have e3:vs (fun j=>a/256^j%256) i=a%256^i:=aHr a i
 have e4:a=a%256^i+256^i*(a/256^i):=(Int.emod_add_mul_ediv a _).symm
 generalize vs (fun j=>s.getD (i+1+j) 0) (16-(i+1))=R at e1
 generalize vs (fun j=>s.getD j 0) i=S at *
 generalize s.getD i 0=f at *
 rw [e3,e1,Int.pow_succ]
 generalize hP':(256:Int)^i=P at *
 generalize hQ:a/P=Q at *
 have e5:a+(S+P*f+P*256*R)=(a%P+S)+P*(Q+f+256*R):=by
  have:P*(Q+f+256*R)=P*Q+P*f+P*256*R:=by rw [Int.mul_add,Int.mul_add,Int.mul_assoc]
  omega
 rw [e5,Int.add_mul_ediv_left _ _ (by omega)]
 omega
theorem bBx (b0 b1 b2 b3 b4 b5 b6 b7 b8 b9 dC dB dA dH dG gN:Int) :
 V [b0,b1,b2,b3,b4,b5,b6,b7,b8,b9,dC,dB,dA,dH,dG,gN,1]=n3 (V [b0,b1,b2,b3,b4,b5,b6,b7]) (V [b8,b9,dC,dB,dA,dH,dG,gN]) 1:=by
 simp only [tL,Ca]
 unfold n3
 omega
theorem aQg (b0 b1 b2 b3 b4 b5 b6 b7 b8 b9 dC dB dA dH dG gN:Int) :
 V [b0,b1,b2,b3,b4,b5,b6,b7,b8,b9,dC,dB,dA,dH,dG,gN]=V [b0,b1,b2,b3,b4,b5,b6,b7]+18446744073709551616*V [b8,b9,dC,dB,dA,dH,dG,gN]:=by
 simp only [tL,Ca]
 omega
end M
def iB (X:SV):SB:=.own [.bool true false,X] 146
def aFx:SV:=.raw (.slice none 0 0)
def faW (m:Nat) (ys:List SV):List (Nat × SB):=[(63,iB (.aG 65 false 0 m 6)),(65,.own ys 196)]
def aPm (iK:Nat) (y0 y1:Int):bJ:=match iK with
 | 0=>{ val:=.ptr 61 true 0,wr:=(61,iB aFx)::faW 0 (wc [y0,y1,0,0,0,0]) }
 | 1=>{ val:=.ptr 61 true 0,new:=[.own [.int false .u64 y0] 196],wr:=(61,iB (.aG 100 true 0 1 1))::faW 1 (wc [y0,y1,0,0,0,0]) }
 | _=>{ val:=.ptr 61 true 0,new:=[.own (wc [y0,y1,0,0,0,0]) 196],wr:=(61,iB (.aG 100 true 0 2 6))::faW 2 (wc [y0,y1,0,0,0,0]) }
theorem Jm {m:Nat} {ys:List SV} {e:bJ} (h:aF Tryz.prog Γv 102 zG (fun l=>look l (Qf (.aG 65 true 0 m 6) ys)) 100 100 e):aF Tryz.prog Γv 102 zG (fun l=>look l (Qf (.aG 65 false 0 m 6) ys)) 100 100 e:=
 aF.reL (L:=Qf (.aG 65 true 0 m 6) ys) (L':=Qf (.aG 65 false 0 m 6) ys) h ⟨rfl,⟨rfl,fun _=>rfl⟩,rfl,⟨rfl,fun _=>rfl⟩,rfl,cC _,rfl,cC _,rfl,cC _,trivial⟩ (fun _=>rfl)
open M in
theorem MW {iK:Nat} (Et:iK<3) {y0 y1:Int} (h:iK=nl [y0,y1]):aF Tryz.prog Γv 102 zG (fun l=>look l (Qf (.aG 65 false 0 iK 6) (wc [y0,y1,0,0,0,0]))) 100 100 (aPm iK y0 y1):=by
 rcases RV y0 y1 with ⟨h',rfl,rfl⟩ | ⟨h',m0,rfl⟩ | ⟨h',m1⟩ <;> rw [h'] at h <;> subst h
 .exact Jm (((((EE [] []).call (aUc 0) (by simp)).bE 63 _ rfl (by decide)).bE 65 _ rfl (by decide)).re rfl (fun _=>rfl) trivial ⟨rfl,⟨rfl,fun _=>rfl⟩,rfl,⟨rfl,fun _=>rfl⟩,rfl,⟨rfl,fun _=>rfl⟩,trivial⟩)
 .exact Jm (((((EE [] []).call (aUb y0) (by simp)).bE 63 _ rfl (by decide)).bE 65 _ rfl (by decide)).re rfl (fun _=>rfl) ⟨⟨rfl,fun _=>rfl⟩,trivial⟩ ⟨rfl,⟨rfl,fun _=>rfl⟩,rfl,⟨rfl,fun _=>rfl⟩,rfl,⟨rfl,fun _=>rfl⟩,trivial⟩)
 .exact Jm (((((EE [] []).call (aUa y0 y1) (by simp)).bE 63 _ rfl (by decide)).bE 65 _ rfl (by decide)).re rfl (fun _=>rfl) ⟨⟨rfl,fun _=>rfl⟩,trivial⟩ ⟨rfl,⟨rfl,fun _=>rfl⟩,rfl,⟨rfl,fun _=>rfl⟩,rfl,⟨rfl,fun _=>rfl⟩,trivial⟩)
open M in
def HB (iK:Nat) (vs:List SV) (T:aZ):Option Canon:=match vs with
 | [.ptr l1 true 0,.ptr l2 true 0,.ptr l3 true 0]=>match Nat.beq l1 l2,T l1,T l3 with
   | true,some (.own [.bool _ _,X] 146),some (.own [.bool _ _,.aG ly _ 0 m 6] 146)=>match T ly with
     | some (.own ys 196)=>match cX .u64 ys with
       | some (y0::y1::_)=>match X with
         | .raw (.slice none 0 0)=>match Nat.blt iK 3 with
           | true=>some { eR:=zG,T0:=Qf (.aG 65 false 0 iK 6) (wc [y0,y1,0,0,0,0]),vl:=[(61,.lab l1 0),(63,.lab l3 0),(65,.lab ly 0)],e0:=aPm iK y0 y1,conds:=[iK=nl [y0,y1]] }
           | false=>none
         | .aG lx _ 0 n ca=>match T lx with
           | some (.own xs 196)=>match cX .u64 xs with
             | some (x0::x1::x2::_)=>some { eR:=zG,T0:=SK (.aG 64 false 0 n ca) (.aG 65 false 0 m 6) (wc (x0::x1::x2::List.replicate (ca-3) 0)) (wc [y0,y1,0,0,0,0]),vl:=[(61,.lab l1 0),(63,.lab l3 0),(64,.lab lx 0),(65,.lab ly 0)],e0:=faE (n3 x0 x1 x2+(y0+18446744073709551616*y1)) ca (.aG 65 false 0 m 6) (wc [y0,y1,0,0,0,0]),conds:=[ca=6\/ca=7\/ca=8\/ca=9,U x0,U x1,0<=x2/\x2<4,U y0,U y1,n=nl [x0,x1,x2],m=nl [y0,y1]] }
             | _=>none
           | _=>none
         | _=>none
       | _=>none
     | _=>none
   | _,_,_=>none
 | _=>none
theorem aLj (iK:Nat) (Γ:Env) (hg:Γ.aR=aB):aH Tryz.prog Γ 102 (aK aB 100 (HB iK)):=by
 refine aW hg fun vs T c hd hc=>?_
 unfold HB at hd
 split at hd
 case h_2=>cases hd
 split at hd
 case h_2=>cases hd
 split at hd
 case h_2=>cases hd
 split at hd
 case h_2=>cases hd
 split at hd
 case h_3=>cases hd
 .split at hd
  case h_2=>cases hd
  rename_i cI
  cases hd
  exact (MW (by simpa [Nat.blt_eq] using cI) (hc _ (by simp))).words (by rw [hg];rfl) (fun _=>rfl) (fun _ _ h=>h) (fun _=>rfl) rfl rfl
 .split at hd
  case h_2=>cases hd
  split at hd
  case h_2=>cases hd
  cases hd
  exact (aBr (hc _ (by simp)) (hc _ (by simp)) (hc _ (by simp)) (hc _ (by simp)) (hc _ (by simp)) (hc _ (by simp)) (hc _ (by simp)) (hc _ (by simp))).words (by rw [hg];rfl) (fun _=>rfl) (fun _ _ h=>h) (fun _=>rfl) rfl rfl
open M in
theorem LO {ca:Nat} (lB:ca=6\/ca=7\/ca=8\/ca=9) {k:Nat} {n0 n1 n2:Int} (h0:U n0) (h1:U n1) (h2:0<=n2/\n2<8) (hk:k=nl [n0,n1,n2]) :
 aF Tryz.prog Γv 99 mQ (fun l=>look l (Xw (.aG 63 false 0 k ca) (wc (n0::n1::n2::List.replicate (ca-3) 0)))) 100 100 (CA (n0+18446744073709551616*n1) (QW (.aG 63 false 0 k ca) (wc (n0::n1::n2::List.replicate (ca-3) 0)))):=by
 rcases nl3 n0 n1 n2 with ⟨h,rfl,rfl,rfl⟩ | ⟨h,m0,rfl,rfl⟩ | ⟨h,m1,rfl⟩ | ⟨h,m2⟩ <;> rw [h] at hk <;> subst hk
 .exact LS ca _
 .have:=Ng (b:=false) ca h0 (wc (0::0::List.replicate (ca-3) 0))
  rw [show n0+18446744073709551616*0=n0 from by omega]
  exact this
 .exact LR (b:=false) ca h0 h1 (wc (0::List.replicate (ca-3) 0))
 .exact LQ lB h0 h1 m2 h2.1 h2.2
open M in
def GK (vs:List SV) (T:aZ):Option Canon:=match vs with
 | [.ptr l1 true 0,.aG lo true 0 16 16]=>match T l1 with
   | some (.own [.bool _ _,X] 146)=>match X with
     | .raw (.slice none 0 0)=>some { eR:=mQ,T0:=aGc,vl:=[(61,.lab l1 0),(62,.lab lo 0)],e0:=CA 0 [(61,.own [.bool true false,.raw (.slice none 0 0)] 146)] }
     | .aG lx _ 0 k c=>match T lx with
       | some (.own xs 196)=>match cX .u64 xs with
         | some [a0]=>some { eR:=mQ,T0:=Xw (.aG 63 false 0 1 c) (ww a0 []),vl:=[(61,.lab l1 0),(62,.lab lo 0),(63,.lab lx 0)],e0:=CA a0 (QW (.aG 63 false 0 1 c) (ww a0 [])),conds:=[U a0] }
         | some (a0::a1::a2::_)=>some { eR:=mQ,T0:=Xw (.aG 63 false 0 k c) (wc (a0::a1::a2::List.replicate (c-3) 0)),vl:=[(61,.lab l1 0),(62,.lab lo 0),(63,.lab lx 0)],e0:=CA (a0+18446744073709551616*a1) (QW (.aG 63 false 0 k c) (wc (a0::a1::a2::List.replicate (c-3) 0))),conds:=[c=6\/c=7\/c=8\/c=9,U a0,U a1,0<=a2/\a2<8,k=nl [a0,a1,a2]] }
         | _=>none
       | _=>none
     | _=>none
   | _=>none
 | _=>none
theorem aSs (Γ:Env) (hg:Γ.aR=aB):aH Tryz.prog Γ 99 (aK aB 100 GK):=by
 refine aW hg fun vs T c hd hc=>?_
 unfold GK at hd
 split at hd
 case h_2=>cases hd
 split at hd
 case h_2=>cases hd
 split at hd
 case h_3=>cases hd
 .cases hd
  exact LP.words (by rw [hg];rfl) (fun _=>rfl) (fun _ _ h=>h) (fun _=>rfl) rfl rfl
 .split at hd
  case h_2=>cases hd
  split at hd
  case h_3=>cases hd
  .cases hd
   exact (Ng _ (hc _ (by simp)) _).words (by rw [hg];rfl) (fun _=>rfl) (fun _ _ h=>h) (fun _=>rfl) rfl rfl
  .cases hd
   exact (LO (hc _ (by simp)) (hc _ (by simp)) (hc _ (by simp)) (hc _ (by simp)) (hc _ (by simp))).words (by rw [hg];rfl) (fun _=>rfl) (fun _ _ h=>h) (fun _=>rfl) rfl rfl
def prL:List (Nat × SB):=[(17,.fP [.int true .i64 40]),(18,.fP [.int true .i64 40])]
def prE:bJ:={ val:=.ptr 100 true 0,new:=[.own [.bool true false,.aG 101 true 0 3 8] 146,.own Ed 196] }
theorem aJo:aJ (env gC 22) Tryz.f90 true [] 400 [.int true .u64 130,.int true .i64 5] (fun l=>look l prL) 100 100=some prE:=by kernel_rfl
theorem YL:aF Tryz.prog Γv 90 [.int true .u64 130,.int true .i64 5] (fun l=>look l prL) 100 100 prE:=
 ((aM (bQ gC 22) (bW gC (fun f S h Γ _=>tJ f S h Γ) 22) mix Tryz.func90 (by kernel_rfl) true [] 400:aH Tryz.prog (env gC 22) 90 _).call aJo (by simp [prE])).re rfl (fun _=>rfl) ⟨⟨rfl,fun _=>rfl⟩,⟨rfl,fun _=>rfl⟩,trivial⟩ trivial
def FN (vs:List SV) (_:aZ):Option Canon:=match vs with
 | [.int true .u64 130,.int true .i64 5]=>some { eR:=[.int true .u64 130,.int true .i64 5],T0:=prL,vl:=[],e0:=prE }
 | _=>none
theorem aRu (Γ:Env) (hg:Γ.aR=aB):aH Tryz.prog Γ 90 (aK aB 100 FN):=by
 refine aW hg fun vs T c hd hc=>?_
 unfold FN at hd
 split at hd
 case h_2=>cases hd
 cases hd
 exact YL.words (by rw [hg];rfl) (fun _=>rfl) (fun _ _ h=>h) (fun _=>rfl) rfl rfl
noncomputable def exG (iK gA nI:Nat):Nat->Option Sum:=dM (dM (dM (exT iK gA) 102 (aK aB 100 (HB nI))) 99 (aK aB 100 GK)) 90 (aK aB 100 FN)
theorem aMd (iK gA nI:Nat):∀ f S,exG iK gA nI f=some S->∀ Γ:Env,Γ.aR=aB->aH Tryz.prog Γ f S:=bD (bD (bD (aMc iK gA) 102 _ (aLj nI)) 99 _ aSs) 90 _ aRu
end Go.Proofs.YticicdfijghigaaGreatDoor.Sx
