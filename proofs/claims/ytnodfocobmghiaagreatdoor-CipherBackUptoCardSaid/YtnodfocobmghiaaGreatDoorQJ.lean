/- (*Int).Add in place, slow.laid, as summaries. -/
import Derived.Test.YtnodfocobmghiaaGreatDoorQI
open Go
set_option maxRecDepth 100000
namespace Go.Proofs.YtnodfocobmghiaaGreatDoor.Sx
namespace M
theorem aWe {N:Int} (h0:w0 N=0) (h1:w1 N=0) (h2:w2 N=0):ln N=0:=by unfold ln;rw [h0,h1,h2];decide
theorem aEm {N:Int} (h0:w0 N≠0) (h1:w1 N=0) (h2:w2 N=0):ln N=1:=by unfold ln;rw [h1,h2];simp only [nl,if_true,if_neg h0]
theorem Xt {N:Int} (h1:w1 N≠0) (h2:w2 N=0):ln N=2:=by unfold ln;rw [h2];simp only [nl,if_true,if_neg h1]
theorem Pj {N:Int} (h2:w2 N≠0):ln N=3:=by unfold ln;simp only [nl,if_neg h2]
end M
theorem DK (h h2:List Bool):aG Tryz.prog (env (DM h h2) 22) 70 (aK (env (DM h h2) 22) Tryz.f70 true [] 400):=aN (bL _ 22) (bV _ (aAx h h2) 22) mix Tryz.func70 (by kernel_rfl) true [] 400
def wN (N:Int) (cap:Nat):List SV:=wc (M.w0 N::M.w1 N::M.w2 N::List.replicate (cap-3) 0)
def faE (N:Int) (cap:Nat) (Y:SV) (ys:List SV):bK:={ val:=.ptr 61 true 0,wr:=[(61,.own [.bool true false,.aH 64 false 0 (M.ln N) cap] 102),(64,.own (wN N cap) 142),(63,.own [.bool true false,Y] 102),(65,.own ys 142)] }
theorem IQ {n m ca:Nat} {xs ys:List SV} {e:bK} (h:aF Tryz.prog Γv 70 yZ (fun l=>look l (RJ (.aH 64 true 0 n ca) (.aH 65 true 0 m 6) xs ys)) 100 100 e):aF Tryz.prog Γv 70 yZ (fun l=>look l (RJ (.aH 64 false 0 n ca) (.aH 65 false 0 m 6) xs ys)) 100 100 e:=
 aF.reL (L:=RJ (.aH 64 true 0 n ca) (.aH 65 true 0 m 6) xs ys) (L':=RJ (.aH 64 false 0 n ca) (.aH 65 false 0 m 6) xs ys) h ⟨rfl,⟨rfl,fun _=>rfl⟩,rfl,⟨rfl,fun _=>rfl⟩,rfl,cB _,rfl,cB _,rfl,cB _,rfl,cB _,trivial⟩ (fun _=>rfl)
theorem kZ {h hh:List Bool} {la ly k cap:Nat} {xs ys cells:List SV} {N:Int} {ob:List Prop} (e:jJ h hh (.aH 64 true 0 la cap) (.aH 65 true 0 ly 6) xs ys=some { bO:=ob,val:=.ptr 61 true 0,wr:=[(61,.own [.bool true false,.aH 64 true 0 k cap] 102),(64,.own cells 142)] }) (ho:∀ q∈ob,q)
 (hk:k=M.ln N) (hc:∀ V,aJ V (wN N cap)=aJ V cells):aF Tryz.prog Γv 70 yZ (fun l=>look l (RJ (.aH 64 false 0 la cap) (.aH 65 false 0 ly 6) xs ys)) 100 100 (faE N cap (.aH 65 false 0 ly 6) ys):=by
 subst hk
 exact IQ (((((DK h hh).call e ho).bD 63 _ rfl (by decide)).bD 65 _ rfl (by decide)).re rfl (fun _=>rfl) trivial ⟨rfl,⟨rfl,fun _=>rfl⟩,rfl,⟨rfl,hc⟩,rfl,⟨rfl,fun _=>rfl⟩,rfl,⟨rfl,fun _=>rfl⟩,trivial⟩)
theorem aKn {h hh:List Bool} {la ly k cap:Nat} {xs ys:List SV} {N:Int} (e:jJ h hh (.aH 64 true 0 la cap) (.aH 65 true 0 ly 6) xs ys=some { val:=.ptr 61 true 0,wr:=[(61,.own [.bool true false,.aH 64 true 0 k cap] 102)] })
 (hk:k=M.ln N) (hc:∀ V,aJ V (wN N cap)=aJ V xs):aF Tryz.prog Γv 70 yZ (fun l=>look l (RJ (.aH 64 false 0 la cap) (.aH 65 false 0 ly 6) xs ys)) 100 100 (faE N cap (.aH 65 false 0 ly 6) ys):=by
 subst hk
 exact IQ ((((((DK h hh).call e (by simp)).bD 64 _ rfl (by decide)).bD 63 _ rfl (by decide)).bD 65 _ rfl (by decide)).re rfl (fun _=>rfl) trivial ⟨rfl,⟨rfl,fun _=>rfl⟩,rfl,⟨rfl,hc⟩,rfl,⟨rfl,fun _=>rfl⟩,rfl,⟨rfl,fun _=>rfl⟩,trivial⟩)
theorem kG {N:Int} {cap:Nat} (h:6<=cap) {a b c:Int} (h0:M.w0 N=a) (h1:M.w1 N=b) (h2:M.w2 N=c):wN N cap = .int false .u64 a :: .int false .u64 b :: .int false .u64 c :: .int false .u64 0::wc (List.replicate (cap-4) 0):=by
 obtain ⟨n,rfl⟩:∃ n,cap=n+4:=⟨cap-4,by omega⟩
 subst h0 h1 h2
 rfl
open M in
theorem aAl {cap:Nat} (kF:cap=6\/cap=7\/cap=8\/cap=9) {la ly:Nat} {x0 x1 x2 y0 y1:Int} (gB:U x0) (fW:U x1) (mW:0<=x2/\x2<4) (fB:U y0) (gW:U y1) (QW:la=nl [x0,x1,x2]) (hly:ly=nl [y0,y1]) :
 aF Tryz.prog Γv 70 yZ (fun l=>look l (RJ (.aH 64 false 0 la cap) (.aH 65 false 0 ly 6) (wc (x0::x1::x2::List.replicate (cap-3) 0)) (wc [y0,y1,0,0,0,0]))) 100 100 (faE (n3 x0 x1 x2+(y0+18446744073709551616*y1)) cap (.aH 65 false 0 ly 6) (wc [y0,y1,0,0,0,0])):=by
 have h6:6<=cap:=by omega
 obtain ⟨ux0,vx0⟩:=gB
 obtain ⟨ux1,vx1⟩:=fW
 obtain ⟨uy0,vy0⟩:=fB
 obtain ⟨uy1,vy1⟩:=gW
 obtain ⟨N,hN⟩:∃ N,N=n3 x0 x1 x2+(y0+18446744073709551616*y1):=⟨_,rfl⟩
 have CF:=hN
 unfold n3 at CF
 rw [<- hN]
 rcases nl3 x0 x1 x2 with ⟨h,rfl,rfl,rfl⟩ | ⟨h,n0,rfl,rfl⟩ | ⟨h,n1,rfl⟩ | ⟨h,n2⟩ <;> rcases QO y0 y1 with ⟨h',rfl,rfl⟩ | ⟨h',m0,rfl⟩ | ⟨h',m1⟩ <;> rw [h] at QW <;> rw [h'] at hly <;> subst QW <;> subst hly
 .exact aKn (aKm kF 0) (aWe (by unfold w0;omega) (by unfold w1;omega) (by unfold w2;omega)).symm (fun _=>by rw [kG h6 (a:=0) (b:=0) (c:=0) (by unfold w0;omega) (by unfold w1;omega) (by unfold w2;omega) ] <;> (obtain ⟨n,rfl⟩:∃ n,cap=n+4:=⟨cap-4,by omega⟩;rfl))
 .exact kZ (aKl kF y0) (by simp) (aEm (by unfold w0;omega) (by unfold w1;omega) (by unfold w2;omega)).symm (fun _=>by rw [kG h6 (a:=y0) (b:=0) (c:=0) (by unfold w0;omega) (by unfold w1;omega) (by unfold w2;omega) ] <;> (obtain ⟨n,rfl⟩:∃ n,cap=n+4:=⟨cap-4,by omega⟩;rfl))
 .exact kZ (aKk kF y0 y1) (by simp) (Xt (by unfold w1;omega) (by unfold w2;omega)).symm (fun _=>by rw [kG h6 (a:=y0) (b:=y1) (c:=0) (by unfold w0;omega) (by unfold w1;omega) (by unfold w2;omega) ] <;> (obtain ⟨n,rfl⟩:∃ n,cap=n+4:=⟨cap-4,by omega⟩;rfl))
 .exact kZ (aKj kF x0) (by simp) (aEm (by unfold w0;omega) (by unfold w1;omega) (by unfold w2;omega)).symm (fun _=>by rw [kG h6 (a:=x0) (b:=0) (c:=0) (by unfold w0;omega) (by unfold w1;omega) (by unfold w2;omega) ] <;> (obtain ⟨n,rfl⟩:∃ n,cap=n+4:=⟨cap-4,by omega⟩;rfl))
 .by_cases Ee:uh (x0+y0+0)=0
  .have Dx:w0 N=ul (x0+y0+0):=by unfold w0 ul;omega
   have wO:w1 N=uh (x0+y0+0):=by unfold w1;unfold ul uh at *;omega
   have sC:w2 N=0:=by unfold w2;unfold ul uh at *;omega
   refine kZ (aKi kF x0 y0) (aA ?_) ?_ (fun _=>by rw [kG h6 Dx wO sC] <;> rfl)
   .simp only [sh,cA,beq_eq_false_iff_ne,beq_iff_eq,bne_iff_ne,ne_eq,and_true,true_and]
    unfold U K ul uh at *
    omega
   .symm
    refine aEm (by rw [Dx] <;> first | decide | (unfold ul uh at *;omega) | (rw [bP];unfold ul uh at *;omega)) (by rw [wO] <;> first | decide | (unfold ul uh at *;omega) | (rw [bP];unfold ul uh at *;omega)) (by rw [sC] <;> first | decide | (unfold ul uh at *;omega) | (rw [bP];unfold ul uh at *;omega))
  .have Dx:w0 N=ul (x0+y0+0):=by unfold w0 ul;omega
   have wO:w1 N=uh (x0+y0+0):=by unfold w1;unfold ul uh at *;omega
   have sC:w2 N=0:=by unfold w2;unfold ul uh at *;omega
   refine kZ (aKh kF x0 y0) (aA ?_) ?_ (fun _=>by rw [kG h6 Dx wO sC] <;> rfl)
   .simp only [sh,cA,beq_eq_false_iff_ne,beq_iff_eq,bne_iff_ne,ne_eq,and_true,true_and]
    unfold U K ul uh at *
    omega
   .symm
    refine Xt (by rw [wO] <;> first | decide | (unfold ul uh at *;omega) | (rw [bP];unfold ul uh at *;omega)) (by rw [sC] <;> first | decide | (unfold ul uh at *;omega) | (rw [bP];unfold ul uh at *;omega))
 .by_cases Ee:uh (y1+uh (y0+x0+0)+0)=0
  .have Dx:w0 N=ul (y0+x0+0):=by unfold w0 ul;omega
   have wO:w1 N=ul (y1+uh (y0+x0+0)+0):=by unfold w1;unfold ul uh at *;omega
   have sC:w2 N=0:=by unfold w2;unfold ul uh at *;omega
   refine kZ (aKg kF x0 y0 y1) (aA ?_) ?_ (fun _=>by rw [kG h6 Dx wO sC] <;> rfl)
   .simp only [sh,cA,beq_eq_false_iff_ne,beq_iff_eq,bne_iff_ne,ne_eq,and_true,true_and]
    unfold U K ul uh at *
    omega
   .symm
    refine Xt (by rw [wO] <;> first | decide | (unfold ul uh at *;omega) | (rw [bP];unfold ul uh at *;omega)) (by rw [sC] <;> first | decide | (unfold ul uh at *;omega) | (rw [bP];unfold ul uh at *;omega))
  .have Dx:w0 N=ul (y0+x0+0):=by unfold w0 ul;omega
   have wO:w1 N=ul (y1+uh (y0+x0+0)+0):=by unfold w1;unfold ul uh at *;omega
   have sC:w2 N=1:=by unfold w2;unfold ul uh at *;omega
   refine kZ (aKf kF x0 y0 y1) (aA ?_) ?_ (fun _=>by rw [kG h6 Dx wO sC] <;> rfl)
   .simp only [sh,cA,beq_eq_false_iff_ne,beq_iff_eq,bne_iff_ne,ne_eq,and_true,true_and]
    unfold U K ul uh at *
    omega
   .symm
    refine Pj (by rw [sC] <;> first | decide | (unfold ul uh at *;omega) | (rw [bP];unfold ul uh at *;omega))
 .exact kZ (aKe kF x0 x1) (by simp) (Xt (by unfold w1;omega) (by unfold w2;omega)).symm (fun _=>by rw [kG h6 (a:=x0) (b:=x1) (c:=0) (by unfold w0;omega) (by unfold w1;omega) (by unfold w2;omega) ] <;> (obtain ⟨n,rfl⟩:∃ n,cap=n+4:=⟨cap-4,by omega⟩;rfl))
 .by_cases Ee:uh (x1+uh (x0+y0+0)+0)=0
  .have Dx:w0 N=ul (x0+y0+0):=by unfold w0 ul;omega
   have wO:w1 N=ul (x1+uh (x0+y0+0)+0):=by unfold w1;unfold ul uh at *;omega
   have sC:w2 N=0:=by unfold w2;unfold ul uh at *;omega
   refine kZ (aKd kF x0 x1 y0) (aA ?_) ?_ (fun _=>by rw [kG h6 Dx wO sC] <;> rfl)
   .simp only [sh,cA,beq_eq_false_iff_ne,beq_iff_eq,bne_iff_ne,ne_eq,and_true,true_and]
    unfold U K ul uh at *
    omega
   .symm
    refine Xt (by rw [wO] <;> first | decide | (unfold ul uh at *;omega) | (rw [bP];unfold ul uh at *;omega)) (by rw [sC] <;> first | decide | (unfold ul uh at *;omega) | (rw [bP];unfold ul uh at *;omega))
  .have Dx:w0 N=ul (x0+y0+0):=by unfold w0 ul;omega
   have wO:w1 N=ul (x1+uh (x0+y0+0)+0):=by unfold w1;unfold ul uh at *;omega
   have sC:w2 N=1:=by unfold w2;unfold ul uh at *;omega
   refine kZ (aKc kF x0 x1 y0) (aA ?_) ?_ (fun _=>by rw [kG h6 Dx wO sC] <;> rfl)
   .simp only [sh,cA,beq_eq_false_iff_ne,beq_iff_eq,bne_iff_ne,ne_eq,and_true,true_and]
    unfold U K ul uh at *
    omega
   .symm
    refine Pj (by rw [sC] <;> first | decide | (unfold ul uh at *;omega) | (rw [bP];unfold ul uh at *;omega))
 .by_cases Ee:uh (x1+y1+uh (x0+y0+0))=0
  .have Dx:w0 N=ul (x0+y0+0):=by unfold w0 ul;omega
   have wO:w1 N=ul (x1+y1+uh (x0+y0+0)):=by unfold w1;unfold ul uh at *;omega
   have sC:w2 N=uh (x1+y1+uh (x0+y0+0)):=by unfold w2;unfold ul uh at *;omega
   refine kZ (aKb kF x0 x1 y0 y1) (aA ?_) ?_ (fun _=>by rw [kG h6 Dx wO sC] <;> rfl)
   .simp only [sh,cA,beq_eq_false_iff_ne,beq_iff_eq,bne_iff_ne,ne_eq,and_true,true_and]
    unfold U K ul uh at *
    omega
   .symm
    refine Xt (by rw [wO] <;> first | decide | (unfold ul uh at *;omega) | (rw [bP];unfold ul uh at *;omega)) (by rw [sC] <;> first | decide | (unfold ul uh at *;omega) | (rw [bP];unfold ul uh at *;omega))
  .have Dx:w0 N=ul (x0+y0+0):=by unfold w0 ul;omega
   have wO:w1 N=ul (x1+y1+uh (x0+y0+0)):=by unfold w1;unfold ul uh at *;omega
   have sC:w2 N=uh (x1+y1+uh (x0+y0+0)):=by unfold w2;unfold ul uh at *;omega
   refine kZ (aKa kF x0 x1 y0 y1) (aA ?_) ?_ (fun _=>by rw [kG h6 Dx wO sC] <;> rfl)
   .simp only [sh,cA,beq_eq_false_iff_ne,beq_iff_eq,bne_iff_ne,ne_eq,and_true,true_and]
    unfold U K ul uh at *
    omega
   .symm
    refine Pj (by rw [sC] <;> first | decide | (unfold ul uh at *;omega) | (rw [bP];unfold ul uh at *;omega))
 .exact kZ (aJz kF x0 x1 x2) (by simp) (Pj (by unfold w2;omega)).symm (fun _=>by rw [kG h6 (a:=x0) (b:=x1) (c:=x2) (by unfold w0;omega) (by unfold w1;omega) (by unfold w2;omega) ] <;> (obtain ⟨n,rfl⟩:∃ n,cap=n+4:=⟨cap-4,by omega⟩;rfl))
 .by_cases Ee:uh (x1+uh (x0+y0+0)+0)=0
  .have Dx:w0 N=ul (x0+y0+0):=by unfold w0 ul;omega
   have wO:w1 N=ul (x1+uh (x0+y0+0)+0):=by unfold w1;unfold ul uh at *;omega
   have sC:w2 N=x2:=by unfold w2;unfold ul uh at *;omega
   refine kZ (aJy kF x0 x1 x2 y0) (aA ?_) ?_ (fun _=>by rw [kG h6 Dx wO sC] <;> rfl)
   .simp only [sh,cA,beq_eq_false_iff_ne,beq_iff_eq,bne_iff_ne,ne_eq,and_true,true_and]
    unfold U K ul uh at *
    omega
   .symm
    refine Pj (by rw [sC] <;> first | decide | (unfold ul uh at *;omega) | (rw [bP];unfold ul uh at *;omega))
  .have Dx:w0 N=ul (x0+y0+0):=by unfold w0 ul;omega
   have wO:w1 N=ul (x1+uh (x0+y0+0)+0):=by unfold w1;unfold ul uh at *;omega
   have sC:w2 N=IntKind.u64.wrap (x2+1):=by rw [bP];unfold w2;unfold ul uh at *;omega
   refine kZ (aAm kF x0 x1 x2 y0) (aA ?_) ?_ (fun _=>by rw [kG h6 Dx wO sC] <;> rfl)
   .simp only [sh,cA,beq_eq_false_iff_ne,beq_iff_eq,bne_iff_ne,ne_eq,and_true,true_and,bP]
    unfold U K ul uh at *
    omega
   .symm
    refine Pj (by rw [sC] <;> first | decide | (unfold ul uh at *;omega) | (rw [bP];unfold ul uh at *;omega))
 .have Dx:w0 N=ul (x0+y0+0):=by unfold w0 ul;omega
  have wO:w1 N=ul (x1+y1+uh (x0+y0+0)):=by unfold w1;unfold ul uh at *;omega
  have sC:w2 N=ul (x2+uh (x1+y1+uh (x0+y0+0))+0):=by unfold w2;unfold ul uh at *;omega
  refine kZ (aJx kF x0 x1 x2 y0 y1) (aA ?_) ?_ (fun _=>by rw [kG h6 Dx wO sC] <;> rfl)
  .simp only [sh,cA,beq_eq_false_iff_ne,beq_iff_eq,bne_iff_ne,ne_eq,and_true,true_and]
   unfold U K ul uh at *
   omega
  .symm
   refine Pj (by rw [sC] <;> first | decide | (unfold ul uh at *;omega) | (rw [bP];unfold ul uh at *;omega))
namespace M
theorem tB {x:Int} (h0:0<=x) (h:x<1000000):IntKind.i64.wrap x=x:=IntWalk.i64_in _ ⟨by omega,by omega⟩
theorem aCo {a:Int} {s:List Int} (hs:bX s):∀ i:Nat,i<=16 ->
 sc (num a) s i=(vs (fun j=>a/256^j%256) i+vs (fun j=>s.getD j 0) i)/256^i/\0<=sc (num a) s i/\sc (num a) s i<=1
 | 0,_=>by simp [sc,vs]
 | i+1,h=>by
   obtain ⟨e,h0,h1⟩:=aCo (a:=a) hs i (by omega)
   have hd:(num a).getD i 0=a/256^i%256:=Vp a (by omega)
   obtain ⟨hf0,hf1⟩:=hs.get i
   have hP:(0:Int)<256^i:=Int.pow_pos (by decide)
   have CE:0<=a/256^i%256/\a/256^i%256<256:=⟨Int.emod_nonneg _ (by decide),Int.emod_lt_of_pos _ (by decide)⟩
   have hsc:sc (num a) s (i+1)=(sc (num a) s i+(a/256^i%256+s.getD i 0))/256:=by
    show IntKind.i64.wrap ((IntKind.i64.wrap (IntKind.i64.wrap (sc (num a) s i+(num a).getD i 0)+IntKind.i64.wrap (s.getD i 0))).tdiv 256)=_
    rw [hd,tB (x:=sc (num a) s i+a/256^i%256) (by omega) (by omega),tB (x:=s.getD i 0) (by omega) (by omega),tB (x:=sc (num a) s i+a/256^i%256+s.getD i 0) (by omega) (by omega),Int.tdiv_eq_ediv_of_nonneg (by omega),tB (by omega) (by omega),Int.add_assoc]
   refine ⟨?_,by rw [hsc];omega,by rw [hsc];omega⟩
   rw [hsc,zN,zN,Int.pow_succ]
   have e2:vs (fun j=>a/256^j%256) i+256^i*(a/256^i%256)+(vs (fun j=>s.getD j 0) i+256^i*s.getD i 0)=(vs (fun j=>a/256^j%256) i+vs (fun j=>s.getD j 0) i)+256^i*(a/256^i%256+s.getD i 0):=by
    rw [Int.mul_add];omega
   rw [e2,<- Int.ediv_ediv_of_nonneg (by omega),Int.add_mul_ediv_left _ _ (by omega),<- e]
theorem UU {a:Int} {s:List Int} (hs:bX s):Pe (num a) s=(List.range 16).map (nb (a+vs (fun j=>s.getD j 0) 16)):=by
 unfold Pe
 refine List.map_congr_left fun i hi=>?_
 have hi:i<16:=by simpa using hi
 obtain ⟨e,h0,h1⟩:=aCo (a:=a) hs i (by omega)
 have hd:(num a).getD i 0=a/256^i%256:=Vp a (by omega)
 obtain ⟨hf0,hf1⟩:=hs.get i
 have hP:(0:Int)<256^i:=Int.pow_pos (by decide)
 have CE:0<=a/256^i%256/\a/256^i%256<256:=⟨Int.emod_nonneg _ (by decide),Int.emod_lt_of_pos _ (by decide)⟩
 rw [hd,tB (x:=sc (num a) s i+a/256^i%256) (by omega) (by omega),tB (x:=s.getD i 0) (by omega) (by omega),tB (x:=sc (num a) s i+a/256^i%256+s.getD i 0) (by omega) (by omega),Int.tmod_eq_emod_of_nonneg (by omega),IntKind.wrap_u8,e]
 unfold nb
 have e1:=Cb (fun j=>s.getD j 0) (16-(i+1)) (i+1)
 rw [show i+1+(16-(i+1))=16 from by omega,zN (fun j=>s.getD j 0) i] at e1
 have e3:vs (fun j=>a/256^j%256) i=a%256^i:=aGf a i
 have e4:a=a%256^i+256^i*(a/256^i):=(Int.emod_add_mul_ediv a _).symm
 generalize vs (fun j=>s.getD (i+1+j) 0) (16-(i+1))=R at e1
 generalize vs (fun j=>s.getD j 0) i=S at *
 generalize s.getD i 0=f at *
 rw [e3,e1,Int.pow_succ]
 generalize hP':(256:Int)^i=P at *
 generalize hQ:a/P=Q at *
 have e5:a+(S+P*f+P*256*R)=(a%P+S)+P*(Q+f+256*R):=by
  have:P*(Q+f+256*R)=P*Q+P*f+P*256*R:=by rw [Int.mul_add,Int.mul_add,Int.mul_assoc]
  omega
 rw [e5,Int.add_mul_ediv_left _ _ (by omega)]
 omega
theorem bAj (b0 b1 b2 b3 b4 b5 b6 b7 b8 b9 cY cX cW dB dA gD:Int) :
 V [b0,b1,b2,b3,b4,b5,b6,b7,b8,b9,cY,cX,cW,dB,dA,gD,1]=n3 (V [b0,b1,b2,b3,b4,b5,b6,b7]) (V [b8,b9,cY,cX,cW,dB,dA,gD]) 1:=by
 simp only [tF,By]
 unfold n3
 omega
theorem aOl (b0 b1 b2 b3 b4 b5 b6 b7 b8 b9 cY cX cW dB dA gD:Int) :
 V [b0,b1,b2,b3,b4,b5,b6,b7,b8,b9,cY,cX,cW,dB,dA,gD]=V [b0,b1,b2,b3,b4,b5,b6,b7]+18446744073709551616*V [b8,b9,cY,cX,cW,dB,dA,gD]:=by
 simp only [tF,By]
 omega
end M
def iB (X:SV):SB:=.own [.bool true false,X] 102
def aEj:SV:=.raw (.slice none 0 0)
def faW (m:Nat) (ys:List SV):List (Nat × SB):=[(63,iB (.aH 65 false 0 m 6)),(65,.own ys 142)]
def aNx (hZ:Nat) (y0 y1:Int):bK:=match hZ with
 | 0=>{ val:=.ptr 61 true 0,wr:=(61,iB aEj)::faW 0 (wc [y0,y1,0,0,0,0]) }
 | 1=>{ val:=.ptr 61 true 0,new:=[.own [.int false .u64 y0] 142],wr:=(61,iB (.aH 100 true 0 1 1))::faW 1 (wc [y0,y1,0,0,0,0]) }
 | _=>{ val:=.ptr 61 true 0,new:=[.own (wc [y0,y1,0,0,0,0]) 142],wr:=(61,iB (.aH 100 true 0 2 6))::faW 2 (wc [y0,y1,0,0,0,0]) }
theorem Iu {m:Nat} {ys:List SV} {e:bK} (h:aF Tryz.prog Γv 70 yZ (fun l=>look l (Pq (.aH 65 true 0 m 6) ys)) 100 100 e):aF Tryz.prog Γv 70 yZ (fun l=>look l (Pq (.aH 65 false 0 m 6) ys)) 100 100 e:=
 aF.reL (L:=Pq (.aH 65 true 0 m 6) ys) (L':=Pq (.aH 65 false 0 m 6) ys) h ⟨rfl,⟨rfl,fun _=>rfl⟩,rfl,⟨rfl,fun _=>rfl⟩,rfl,cB _,rfl,cB _,rfl,cB _,trivial⟩ (fun _=>rfl)
open M in
theorem LQ {hZ:Nat} (Eo:hZ<3) {y0 y1:Int} (h:hZ=nl [y0,y1]):aF Tryz.prog Γv 70 yZ (fun l=>look l (Pq (.aH 65 false 0 hZ 6) (wc [y0,y1,0,0,0,0]))) 100 100 (aNx hZ y0 y1):=by
 rcases QO y0 y1 with ⟨h',rfl,rfl⟩ | ⟨h',m0,rfl⟩ | ⟨h',m1⟩ <;> rw [h'] at h <;> subst h
 .exact Iu (((((DK [] []).call (aSh 0) (by simp)).bD 63 _ rfl (by decide)).bD 65 _ rfl (by decide)).re rfl (fun _=>rfl) trivial ⟨rfl,⟨rfl,fun _=>rfl⟩,rfl,⟨rfl,fun _=>rfl⟩,rfl,⟨rfl,fun _=>rfl⟩,trivial⟩)
 .exact Iu (((((DK [] []).call (aSg y0) (by simp)).bD 63 _ rfl (by decide)).bD 65 _ rfl (by decide)).re rfl (fun _=>rfl) ⟨⟨rfl,fun _=>rfl⟩,trivial⟩ ⟨rfl,⟨rfl,fun _=>rfl⟩,rfl,⟨rfl,fun _=>rfl⟩,rfl,⟨rfl,fun _=>rfl⟩,trivial⟩)
 .exact Iu (((((DK [] []).call (aSf y0 y1) (by simp)).bD 63 _ rfl (by decide)).bD 65 _ rfl (by decide)).re rfl (fun _=>rfl) ⟨⟨rfl,fun _=>rfl⟩,trivial⟩ ⟨rfl,⟨rfl,fun _=>rfl⟩,rfl,⟨rfl,fun _=>rfl⟩,rfl,⟨rfl,fun _=>rfl⟩,trivial⟩)
open M in
def GC (hZ:Nat) (vs:List SV) (T:aX):Option Canon:=match vs with
 | [.ptr l1 true 0,.ptr l2 true 0,.ptr l3 true 0]=>match Nat.beq l1 l2,T l1,T l3 with
   | true,some (.own [.bool _ _,X] 102),some (.own [.bool _ _,.aH ly _ 0 m 6] 102)=>match T ly with
     | some (.own ys 142)=>match cU .u64 ys with
       | some (y0::y1::_)=>match X with
         | .raw (.slice none 0 0)=>match Nat.blt hZ 3 with
           | true=>some { eL:=yZ,T0:=Pq (.aH 65 false 0 hZ 6) (wc [y0,y1,0,0,0,0]),vl:=[(61,.lab l1 0),(63,.lab l3 0),(65,.lab ly 0)],e0:=aNx hZ y0 y1,conds:=[hZ=nl [y0,y1]] }
           | false=>none
         | .aH lx _ 0 n ca=>match T lx with
           | some (.own xs 142)=>match cU .u64 xs with
             | some (x0::x1::x2::_)=>some { eL:=yZ,T0:=RJ (.aH 64 false 0 n ca) (.aH 65 false 0 m 6) (wc (x0::x1::x2::List.replicate (ca-3) 0)) (wc [y0,y1,0,0,0,0]),vl:=[(61,.lab l1 0),(63,.lab l3 0),(64,.lab lx 0),(65,.lab ly 0)],e0:=faE (n3 x0 x1 x2+(y0+18446744073709551616*y1)) ca (.aH 65 false 0 m 6) (wc [y0,y1,0,0,0,0]),conds:=[ca=6\/ca=7\/ca=8\/ca=9,U x0,U x1,0<=x2/\x2<4,U y0,U y1,n=nl [x0,x1,x2],m=nl [y0,y1]] }
             | _=>none
           | _=>none
         | _=>none
       | _=>none
     | _=>none
   | _,_,_=>none
 | _=>none
theorem aJw (hZ:Nat) (Γ:Env) (hg:Γ.aO=aB):aG Tryz.prog Γ 70 (aL aB 100 (GC hZ)):=by
 refine aY hg fun vs T c hd hc=>?_
 unfold GC at hd
 split at hd
 case h_2=>cases hd
 split at hd
 case h_2=>cases hd
 split at hd
 case h_2=>cases hd
 split at hd
 case h_2=>cases hd
 split at hd
 case h_3=>cases hd
 .split at hd
  case h_2=>cases hd
  rename_i cM
  cases hd
  exact (LQ (by simpa [Nat.blt_eq] using cM) (hc _ (by simp))).words (by rw [hg];rfl) (fun _=>rfl) (fun _ _ h=>h) (fun _=>rfl) rfl rfl
 .split at hd
  case h_2=>cases hd
  split at hd
  case h_2=>cases hd
  cases hd
  exact (aAl (hc _ (by simp)) (hc _ (by simp)) (hc _ (by simp)) (hc _ (by simp)) (hc _ (by simp)) (hc _ (by simp)) (hc _ (by simp)) (hc _ (by simp))).words (by rw [hg];rfl) (fun _=>rfl) (fun _ _ h=>h) (fun _=>rfl) rfl rfl
open M in
theorem KJ {ca:Nat} (kF:ca=6\/ca=7\/ca=8\/ca=9) {k:Nat} {n0 n1 n2:Int} (h0:U n0) (h1:U n1) (h2:0<=n2/\n2<8) (hk:k=nl [n0,n1,n2]) :
 aF Tryz.prog Γv 67 mE (fun l=>look l (Xa (.aH 63 false 0 k ca) (wc (n0::n1::n2::List.replicate (ca-3) 0)))) 100 100 (BF (n0+18446744073709551616*n1) (PS (.aH 63 false 0 k ca) (wc (n0::n1::n2::List.replicate (ca-3) 0)))):=by
 rcases nl3 n0 n1 n2 with ⟨h,rfl,rfl,rfl⟩ | ⟨h,m0,rfl,rfl⟩ | ⟨h,m1,rfl⟩ | ⟨h,m2⟩ <;> rw [h] at hk <;> subst hk
 .exact KN ca _
 .have:=Mo (b:=false) ca h0 (wc (0::0::List.replicate (ca-3) 0))
  rw [show n0+18446744073709551616*0=n0 from by omega]
  exact this
 .exact KM (b:=false) ca h0 h1 (wc (0::List.replicate (ca-3) 0))
 .exact KL kF h0 h1 m2 h2.1 h2.2
open M in
def FN (vs:List SV) (T:aX):Option Canon:=match vs with
 | [.ptr l1 true 0,.aH lo true 0 16 16]=>match T l1 with
   | some (.own [.bool _ _,X] 102)=>match X with
     | .raw (.slice none 0 0)=>some { eL:=mE,T0:=aEo,vl:=[(61,.lab l1 0),(62,.lab lo 0)],e0:=BF 0 [(61,.own [.bool true false,.raw (.slice none 0 0)] 102)] }
     | .aH lx _ 0 k c=>match T lx with
       | some (.own xs 142)=>match cU .u64 xs with
         | some [a0]=>some { eL:=mE,T0:=Xa (.aH 63 false 0 1 c) (ww a0 []),vl:=[(61,.lab l1 0),(62,.lab lo 0),(63,.lab lx 0)],e0:=BF a0 (PS (.aH 63 false 0 1 c) (ww a0 [])),conds:=[U a0] }
         | some (a0::a1::a2::_)=>some { eL:=mE,T0:=Xa (.aH 63 false 0 k c) (wc (a0::a1::a2::List.replicate (c-3) 0)),vl:=[(61,.lab l1 0),(62,.lab lo 0),(63,.lab lx 0)],e0:=BF (a0+18446744073709551616*a1) (PS (.aH 63 false 0 k c) (wc (a0::a1::a2::List.replicate (c-3) 0))),conds:=[c=6\/c=7\/c=8\/c=9,U a0,U a1,0<=a2/\a2<8,k=nl [a0,a1,a2]] }
         | _=>none
       | _=>none
     | _=>none
   | _=>none
 | _=>none
theorem aQx (Γ:Env) (hg:Γ.aO=aB):aG Tryz.prog Γ 67 (aL aB 100 FN):=by
 refine aY hg fun vs T c hd hc=>?_
 unfold FN at hd
 split at hd
 case h_2=>cases hd
 split at hd
 case h_2=>cases hd
 split at hd
 case h_3=>cases hd
 .cases hd
  exact KK.words (by rw [hg];rfl) (fun _=>rfl) (fun _ _ h=>h) (fun _=>rfl) rfl rfl
 .split at hd
  case h_2=>cases hd
  split at hd
  case h_3=>cases hd
  .cases hd
   exact (Mo _ (hc _ (by simp)) _).words (by rw [hg];rfl) (fun _=>rfl) (fun _ _ h=>h) (fun _=>rfl) rfl rfl
  .cases hd
   exact (KJ (hc _ (by simp)) (hc _ (by simp)) (hc _ (by simp)) (hc _ (by simp)) (hc _ (by simp))).words (by rw [hg];rfl) (fun _=>rfl) (fun _ _ h=>h) (fun _=>rfl) rfl rfl
def prL:List (Nat × SB):=[(17,.eQ [.int true .i64 40]),(18,.eQ [.int true .i64 40])]
def prE:bK:={ val:=.ptr 100 true 0,new:=[.own [.bool true false,.aH 101 true 0 3 8] 102,.own Ea 142] }
theorem aIc:aK (env eY 22) Tryz.f58 true [] 400 [.int true .u64 130,.int true .i64 5] (fun l=>look l prL) 100 100=some prE:=by kernel_rfl
theorem XK:aF Tryz.prog Γv 58 [.int true .u64 130,.int true .i64 5] (fun l=>look l prL) 100 100 prE:=
 ((aN (bL eY 22) (bV eY (fun f S h Γ _=>tD f S h Γ) 22) mix Tryz.func58 (by kernel_rfl) true [] 400:aG Tryz.prog (env eY 22) 58 _).call aIc (by simp [prE])).re rfl (fun _=>rfl) ⟨⟨rfl,fun _=>rfl⟩,⟨rfl,fun _=>rfl⟩,trivial⟩ trivial
def ES (vs:List SV) (_:aX):Option Canon:=match vs with
 | [.int true .u64 130,.int true .i64 5]=>some { eL:=[.int true .u64 130,.int true .i64 5],T0:=prL,vl:=[],e0:=prE }
 | _=>none
theorem aQa (Γ:Env) (hg:Γ.aO=aB):aG Tryz.prog Γ 58 (aL aB 100 ES):=by
 refine aY hg fun vs T c hd hc=>?_
 unfold ES at hd
 split at hd
 case h_2=>cases hd
 cases hd
 exact XK.words (by rw [hg];rfl) (fun _=>rfl) (fun _ _ h=>h) (fun _=>rfl) rfl rfl
noncomputable def exG (hZ fN mV:Nat):Nat->Option Sum:=dL (dL (dL (exT hZ fN) 70 (aL aB 100 (GC mV))) 67 (aL aB 100 FN)) 58 (aL aB 100 ES)
theorem aKq (hZ fN mV:Nat):∀ f S,exG hZ fN mV f=some S->∀ Γ:Env,Γ.aO=aB->aG Tryz.prog Γ f S:=bE (bE (bE (aKp hZ fN) 70 _ (aJw mV)) 67 _ aQx) 58 _ aQa
end Go.Proofs.YtnodfocobmghiaaGreatDoor.Sx
