/- (*Int).Add in place, slow.laid, as summaries. -/
import Derived.Test.YticicdfijghigaaGreatDoorQJ
open Go
set_option maxRecDepth 100000
namespace Go.Proofs.YticicdfijghigaaGreatDoor.Sx
namespace M
theorem bCf {N:Int} (h0:w0 N=0) (h1:w1 N=0) (h2:w2 N=0):ln N=0:=by unfold ln;rw [h0,h1,h2];decide
theorem aIy {N:Int} (h0:w0 N≠0) (h1:w1 N=0) (h2:w2 N=0):ln N=1:=by unfold ln;rw [h1,h2];simp only [nl,if_true,if_neg h0]
theorem BB {N:Int} (h1:w1 N≠0) (h2:w2 N=0):ln N=2:=by unfold ln;rw [h2];simp only [nl,if_true,if_neg h1]
theorem Sh {N:Int} (h2:w2 N≠0):ln N=3:=by unfold ln;simp only [nl,if_neg h2]
end M
theorem HA (h h2:List Bool):aI Tryz.prog (env (HC h h2) 22) 102 (aF (env (HC h h2) 22) Tryz.f102 true [] 400):=aM (bP _ 22) (bV _ (aEz h h2) 22) mix Tryz.func102 (by kernel_rfl) true [] 400
def wN (N:Int) (cap:Nat):List SV:=wc (M.w0 N::M.w1 N::M.w2 N::List.replicate (cap-3) 0)
def faE (N:Int) (cap:Nat) (Y:SV) (ys:List SV):bL:={ val:=.ptr 61 true 0,wr:=[(61,.own [.bool true false,.aJ 64 false 0 (M.ln N) cap] 146),(64,.own (wN N cap) 196),(63,.own [.bool true false,Y] 146),(65,.own ys 196)] }
theorem MO {n m ca:Nat} {xs ys:List SV} {e:bL} (h:aE Tryz.prog Γv 102 Av (fun l=>look l (VO (.aJ 64 true 0 n ca) (.aJ 65 true 0 m 6) xs ys)) 100 100 e):aE Tryz.prog Γv 102 Av (fun l=>look l (VO (.aJ 64 false 0 n ca) (.aJ 65 false 0 m 6) xs ys)) 100 100 e:=
 aE.reL (L:=VO (.aJ 64 true 0 n ca) (.aJ 65 true 0 m 6) xs ys) (L':=VO (.aJ 64 false 0 n ca) (.aJ 65 false 0 m 6) xs ys) h ⟨rfl,⟨rfl,fun _=>rfl⟩,rfl,⟨rfl,fun _=>rfl⟩,rfl,cE _,rfl,cE _,rfl,cE _,rfl,cE _,trivial⟩ (fun _=>rfl)
theorem mD {h hh:List Bool} {la ly k cap:Nat} {xs ys cells:List SV} {N:Int} {ob:List Prop} (e:kD h hh (.aJ 64 true 0 la cap) (.aJ 65 true 0 ly 6) xs ys=some { bK:=ob,val:=.ptr 61 true 0,wr:=[(61,.own [.bool true false,.aJ 64 true 0 k cap] 146),(64,.own cells 196)] }) (ho:∀ q∈ob,q)
 (hk:k=M.ln N) (hc:∀ V,aG V (wN N cap)=aG V cells):aE Tryz.prog Γv 102 Av (fun l=>look l (VO (.aJ 64 false 0 la cap) (.aJ 65 false 0 ly 6) xs ys)) 100 100 (faE N cap (.aJ 65 false 0 ly 6) ys):=by
 subst hk
 exact MO (((((HA h hh).call e ho).bF 63 _ rfl (by decide)).bF 65 _ rfl (by decide)).re rfl (fun _=>rfl) trivial ⟨rfl,⟨rfl,fun _=>rfl⟩,rfl,⟨rfl,hc⟩,rfl,⟨rfl,fun _=>rfl⟩,rfl,⟨rfl,fun _=>rfl⟩,trivial⟩)
theorem aPd {h hh:List Bool} {la ly k cap:Nat} {xs ys:List SV} {N:Int} (e:kD h hh (.aJ 64 true 0 la cap) (.aJ 65 true 0 ly 6) xs ys=some { val:=.ptr 61 true 0,wr:=[(61,.own [.bool true false,.aJ 64 true 0 k cap] 146)] })
 (hk:k=M.ln N) (hc:∀ V,aG V (wN N cap)=aG V xs):aE Tryz.prog Γv 102 Av (fun l=>look l (VO (.aJ 64 false 0 la cap) (.aJ 65 false 0 ly 6) xs ys)) 100 100 (faE N cap (.aJ 65 false 0 ly 6) ys):=by
 subst hk
 exact MO ((((((HA h hh).call e (by simp)).bF 64 _ rfl (by decide)).bF 63 _ rfl (by decide)).bF 65 _ rfl (by decide)).re rfl (fun _=>rfl) trivial ⟨rfl,⟨rfl,fun _=>rfl⟩,rfl,⟨rfl,hc⟩,rfl,⟨rfl,fun _=>rfl⟩,rfl,⟨rfl,fun _=>rfl⟩,trivial⟩)
theorem lH {N:Int} {cap:Nat} (h:6<=cap) {a b c:Int} (h0:M.w0 N=a) (h1:M.w1 N=b) (h2:M.w2 N=c):wN N cap = .int false .u64 a :: .int false .u64 b :: .int false .u64 c :: .int false .u64 0::wc (List.replicate (cap-4) 0):=by
 obtain ⟨n,rfl⟩:∃ n,cap=n+4:=⟨cap-4,by omega⟩
 subst h0 h1 h2
 rfl
open M in
theorem aEm {cap:Nat} (lS:cap=6\/cap=7\/cap=8\/cap=9) {la ly:Nat} {x0 x1 x2 y0 y1:Int} (gK:U x0) (gM:U x1) (nX:0<=x2/\x2<4) (fK:U y0) (iL:U y1) (VH:la=nl [x0,x1,x2]) (hly:ly=nl [y0,y1]) :
 aE Tryz.prog Γv 102 Av (fun l=>look l (VO (.aJ 64 false 0 la cap) (.aJ 65 false 0 ly 6) (wc (x0::x1::x2::List.replicate (cap-3) 0)) (wc [y0,y1,0,0,0,0]))) 100 100 (faE (n3 x0 x1 x2+(y0+18446744073709551616*y1)) cap (.aJ 65 false 0 ly 6) (wc [y0,y1,0,0,0,0])):=by
 have h6:6<=cap:=by omega
 obtain ⟨ux0,vx0⟩:=gK
 obtain ⟨ux1,vx1⟩:=gM
 obtain ⟨uy0,vy0⟩:=fK
 obtain ⟨uy1,vy1⟩:=iL
 obtain ⟨N,hN⟩:∃ N,N=n3 x0 x1 x2+(y0+18446744073709551616*y1):=⟨_,rfl⟩
 have GA:=hN
 unfold n3 at GA
 rw [<- hN]
 rcases nl3 x0 x1 x2 with ⟨h,rfl,rfl,rfl⟩ | ⟨h,n0,rfl,rfl⟩ | ⟨h,n1,rfl⟩ | ⟨h,n2⟩ <;> rcases VB y0 y1 with ⟨h',rfl,rfl⟩ | ⟨h',m0,rfl⟩ | ⟨h',m1⟩ <;> rw [h] at VH <;> rw [h'] at hly <;> subst VH <;> subst hly
 .exact aPd (aPc lS 0) (bCf (by unfold w0;omega) (by unfold w1;omega) (by unfold w2;omega)).symm (fun _=>by rw [lH h6 (a:=0) (b:=0) (c:=0) (by unfold w0;omega) (by unfold w1;omega) (by unfold w2;omega) ] <;> (obtain ⟨n,rfl⟩:∃ n,cap=n+4:=⟨cap-4,by omega⟩;rfl))
 .exact mD (aPb lS y0) (by simp) (aIy (by unfold w0;omega) (by unfold w1;omega) (by unfold w2;omega)).symm (fun _=>by rw [lH h6 (a:=y0) (b:=0) (c:=0) (by unfold w0;omega) (by unfold w1;omega) (by unfold w2;omega) ] <;> (obtain ⟨n,rfl⟩:∃ n,cap=n+4:=⟨cap-4,by omega⟩;rfl))
 .exact mD (aPa lS y0 y1) (by simp) (BB (by unfold w1;omega) (by unfold w2;omega)).symm (fun _=>by rw [lH h6 (a:=y0) (b:=y1) (c:=0) (by unfold w0;omega) (by unfold w1;omega) (by unfold w2;omega) ] <;> (obtain ⟨n,rfl⟩:∃ n,cap=n+4:=⟨cap-4,by omega⟩;rfl))
 .exact mD (aOz lS x0) (by simp) (aIy (by unfold w0;omega) (by unfold w1;omega) (by unfold w2;omega)).symm (fun _=>by rw [lH h6 (a:=x0) (b:=0) (c:=0) (by unfold w0;omega) (by unfold w1;omega) (by unfold w2;omega) ] <;> (obtain ⟨n,rfl⟩:∃ n,cap=n+4:=⟨cap-4,by omega⟩;rfl))
 .by_cases Aj:uh (x0+y0+0)=0
  .have Ga:w0 N=ul (x0+y0+0):=by unfold w0 ul;omega
   have xX:w1 N=uh (x0+y0+0):=by unfold w1;unfold ul uh at *;omega
   have tP:w2 N=0:=by unfold w2;unfold ul uh at *;omega
   refine mD (aOy lS x0 y0) (aA ?_) ?_ (fun _=>by rw [lH h6 Ga xX tP] <;> rfl)
   .simp only [sh,bJ,beq_eq_false_iff_ne,beq_iff_eq,bne_iff_ne,ne_eq,and_true,true_and]
    unfold U K ul uh at *
    omega
   .symm
    refine aIy (by rw [Ga] <;> first | decide | (unfold ul uh at *;omega) | (rw [bT];unfold ul uh at *;omega)) (by rw [xX] <;> first | decide | (unfold ul uh at *;omega) | (rw [bT];unfold ul uh at *;omega)) (by rw [tP] <;> first | decide | (unfold ul uh at *;omega) | (rw [bT];unfold ul uh at *;omega))
  .have Ga:w0 N=ul (x0+y0+0):=by unfold w0 ul;omega
   have xX:w1 N=uh (x0+y0+0):=by unfold w1;unfold ul uh at *;omega
   have tP:w2 N=0:=by unfold w2;unfold ul uh at *;omega
   refine mD (aOx lS x0 y0) (aA ?_) ?_ (fun _=>by rw [lH h6 Ga xX tP] <;> rfl)
   .simp only [sh,bJ,beq_eq_false_iff_ne,beq_iff_eq,bne_iff_ne,ne_eq,and_true,true_and]
    unfold U K ul uh at *
    omega
   .symm
    refine BB (by rw [xX] <;> first | decide | (unfold ul uh at *;omega) | (rw [bT];unfold ul uh at *;omega)) (by rw [tP] <;> first | decide | (unfold ul uh at *;omega) | (rw [bT];unfold ul uh at *;omega))
 .by_cases Aj:uh (y1+uh (y0+x0+0)+0)=0
  .have Ga:w0 N=ul (y0+x0+0):=by unfold w0 ul;omega
   have xX:w1 N=ul (y1+uh (y0+x0+0)+0):=by unfold w1;unfold ul uh at *;omega
   have tP:w2 N=0:=by unfold w2;unfold ul uh at *;omega
   refine mD (aOw lS x0 y0 y1) (aA ?_) ?_ (fun _=>by rw [lH h6 Ga xX tP] <;> rfl)
   .simp only [sh,bJ,beq_eq_false_iff_ne,beq_iff_eq,bne_iff_ne,ne_eq,and_true,true_and]
    unfold U K ul uh at *
    omega
   .symm
    refine BB (by rw [xX] <;> first | decide | (unfold ul uh at *;omega) | (rw [bT];unfold ul uh at *;omega)) (by rw [tP] <;> first | decide | (unfold ul uh at *;omega) | (rw [bT];unfold ul uh at *;omega))
  .have Ga:w0 N=ul (y0+x0+0):=by unfold w0 ul;omega
   have xX:w1 N=ul (y1+uh (y0+x0+0)+0):=by unfold w1;unfold ul uh at *;omega
   have tP:w2 N=1:=by unfold w2;unfold ul uh at *;omega
   refine mD (aOv lS x0 y0 y1) (aA ?_) ?_ (fun _=>by rw [lH h6 Ga xX tP] <;> rfl)
   .simp only [sh,bJ,beq_eq_false_iff_ne,beq_iff_eq,bne_iff_ne,ne_eq,and_true,true_and]
    unfold U K ul uh at *
    omega
   .symm
    refine Sh (by rw [tP] <;> first | decide | (unfold ul uh at *;omega) | (rw [bT];unfold ul uh at *;omega))
 .exact mD (aOu lS x0 x1) (by simp) (BB (by unfold w1;omega) (by unfold w2;omega)).symm (fun _=>by rw [lH h6 (a:=x0) (b:=x1) (c:=0) (by unfold w0;omega) (by unfold w1;omega) (by unfold w2;omega) ] <;> (obtain ⟨n,rfl⟩:∃ n,cap=n+4:=⟨cap-4,by omega⟩;rfl))
 .by_cases Aj:uh (x1+uh (x0+y0+0)+0)=0
  .have Ga:w0 N=ul (x0+y0+0):=by unfold w0 ul;omega
   have xX:w1 N=ul (x1+uh (x0+y0+0)+0):=by unfold w1;unfold ul uh at *;omega
   have tP:w2 N=0:=by unfold w2;unfold ul uh at *;omega
   refine mD (aOt lS x0 x1 y0) (aA ?_) ?_ (fun _=>by rw [lH h6 Ga xX tP] <;> rfl)
   .simp only [sh,bJ,beq_eq_false_iff_ne,beq_iff_eq,bne_iff_ne,ne_eq,and_true,true_and]
    unfold U K ul uh at *
    omega
   .symm
    refine BB (by rw [xX] <;> first | decide | (unfold ul uh at *;omega) | (rw [bT];unfold ul uh at *;omega)) (by rw [tP] <;> first | decide | (unfold ul uh at *;omega) | (rw [bT];unfold ul uh at *;omega))
  .have Ga:w0 N=ul (x0+y0+0):=by unfold w0 ul;omega
   have xX:w1 N=ul (x1+uh (x0+y0+0)+0):=by unfold w1;unfold ul uh at *;omega
   have tP:w2 N=1:=by unfold w2;unfold ul uh at *;omega
   refine mD (aOs lS x0 x1 y0) (aA ?_) ?_ (fun _=>by rw [lH h6 Ga xX tP] <;> rfl)
   .simp only [sh,bJ,beq_eq_false_iff_ne,beq_iff_eq,bne_iff_ne,ne_eq,and_true,true_and]
    unfold U K ul uh at *
    omega
   .symm
    refine Sh (by rw [tP] <;> first | decide | (unfold ul uh at *;omega) | (rw [bT];unfold ul uh at *;omega))
 .by_cases Aj:uh (x1+y1+uh (x0+y0+0))=0
  .have Ga:w0 N=ul (x0+y0+0):=by unfold w0 ul;omega
   have xX:w1 N=ul (x1+y1+uh (x0+y0+0)):=by unfold w1;unfold ul uh at *;omega
   have tP:w2 N=uh (x1+y1+uh (x0+y0+0)):=by unfold w2;unfold ul uh at *;omega
   refine mD (aOr lS x0 x1 y0 y1) (aA ?_) ?_ (fun _=>by rw [lH h6 Ga xX tP] <;> rfl)
   .simp only [sh,bJ,beq_eq_false_iff_ne,beq_iff_eq,bne_iff_ne,ne_eq,and_true,true_and]
    unfold U K ul uh at *
    omega
   .symm
    refine BB (by rw [xX] <;> first | decide | (unfold ul uh at *;omega) | (rw [bT];unfold ul uh at *;omega)) (by rw [tP] <;> first | decide | (unfold ul uh at *;omega) | (rw [bT];unfold ul uh at *;omega))
  .have Ga:w0 N=ul (x0+y0+0):=by unfold w0 ul;omega
   have xX:w1 N=ul (x1+y1+uh (x0+y0+0)):=by unfold w1;unfold ul uh at *;omega
   have tP:w2 N=uh (x1+y1+uh (x0+y0+0)):=by unfold w2;unfold ul uh at *;omega
   refine mD (aOq lS x0 x1 y0 y1) (aA ?_) ?_ (fun _=>by rw [lH h6 Ga xX tP] <;> rfl)
   .simp only [sh,bJ,beq_eq_false_iff_ne,beq_iff_eq,bne_iff_ne,ne_eq,and_true,true_and]
    unfold U K ul uh at *
    omega
   .symm
    refine Sh (by rw [tP] <;> first | decide | (unfold ul uh at *;omega) | (rw [bT];unfold ul uh at *;omega))
 .exact mD (aOp lS x0 x1 x2) (by simp) (Sh (by unfold w2;omega)).symm (fun _=>by rw [lH h6 (a:=x0) (b:=x1) (c:=x2) (by unfold w0;omega) (by unfold w1;omega) (by unfold w2;omega) ] <;> (obtain ⟨n,rfl⟩:∃ n,cap=n+4:=⟨cap-4,by omega⟩;rfl))
 .by_cases Aj:uh (x1+uh (x0+y0+0)+0)=0
  .have Ga:w0 N=ul (x0+y0+0):=by unfold w0 ul;omega
   have xX:w1 N=ul (x1+uh (x0+y0+0)+0):=by unfold w1;unfold ul uh at *;omega
   have tP:w2 N=x2:=by unfold w2;unfold ul uh at *;omega
   refine mD (aOo lS x0 x1 x2 y0) (aA ?_) ?_ (fun _=>by rw [lH h6 Ga xX tP] <;> rfl)
   .simp only [sh,bJ,beq_eq_false_iff_ne,beq_iff_eq,bne_iff_ne,ne_eq,and_true,true_and]
    unfold U K ul uh at *
    omega
   .symm
    refine Sh (by rw [tP] <;> first | decide | (unfold ul uh at *;omega) | (rw [bT];unfold ul uh at *;omega))
  .have Ga:w0 N=ul (x0+y0+0):=by unfold w0 ul;omega
   have xX:w1 N=ul (x1+uh (x0+y0+0)+0):=by unfold w1;unfold ul uh at *;omega
   have tP:w2 N=IntKind.u64.wrap (x2+1):=by rw [bT];unfold w2;unfold ul uh at *;omega
   refine mD (aEn lS x0 x1 x2 y0) (aA ?_) ?_ (fun _=>by rw [lH h6 Ga xX tP] <;> rfl)
   .simp only [sh,bJ,beq_eq_false_iff_ne,beq_iff_eq,bne_iff_ne,ne_eq,and_true,true_and,bT]
    unfold U K ul uh at *
    omega
   .symm
    refine Sh (by rw [tP] <;> first | decide | (unfold ul uh at *;omega) | (rw [bT];unfold ul uh at *;omega))
 .have Ga:w0 N=ul (x0+y0+0):=by unfold w0 ul;omega
  have xX:w1 N=ul (x1+y1+uh (x0+y0+0)):=by unfold w1;unfold ul uh at *;omega
  have tP:w2 N=ul (x2+uh (x1+y1+uh (x0+y0+0))+0):=by unfold w2;unfold ul uh at *;omega
  refine mD (aOn lS x0 x1 x2 y0 y1) (aA ?_) ?_ (fun _=>by rw [lH h6 Ga xX tP] <;> rfl)
  .simp only [sh,bJ,beq_eq_false_iff_ne,beq_iff_eq,bne_iff_ne,ne_eq,and_true,true_and]
   unfold U K ul uh at *
   omega
  .symm
   refine Sh (by rw [tP] <;> first | decide | (unfold ul uh at *;omega) | (rw [bT];unfold ul uh at *;omega))
namespace M
theorem uQ {x:Int} (h0:0<=x) (h:x<1000000):IntKind.i64.wrap x=x:=IntWalk.i64_in _ ⟨by omega,by omega⟩
theorem aGu {a:Int} {s:List Int} (hs:bI s):∀ i:Nat,i<=16 ->
 sc (num a) s i=(vs (fun j=>a/256^j%256) i+vs (fun j=>s.getD j 0) i)/256^i/\0<=sc (num a) s i/\sc (num a) s i<=1
 | 0,_=>by simp [sc,vs]
 | i+1,h=>by
   obtain ⟨e,h0,h1⟩:=aGu (a:=a) hs i (by omega)
   have hd:(num a).getD i 0=a/256^i%256:=Yy a (by omega)
   obtain ⟨hf0,hf1⟩:=hs.get i
   have hP:(0:Int)<256^i:=Int.pow_pos (by decide)
   have FU:0<=a/256^i%256/\a/256^i%256<256:=⟨Int.emod_nonneg _ (by decide),Int.emod_lt_of_pos _ (by decide)⟩
   have hsc:sc (num a) s (i+1)=(sc (num a) s i+(a/256^i%256+s.getD i 0))/256:=by
    show IntKind.i64.wrap ((IntKind.i64.wrap (IntKind.i64.wrap (sc (num a) s i+(num a).getD i 0)+IntKind.i64.wrap (s.getD i 0))).tdiv 256)=_
    rw [hd,uQ (x:=sc (num a) s i+a/256^i%256) (by omega) (by omega),uQ (x:=s.getD i 0) (by omega) (by omega),uQ (x:=sc (num a) s i+a/256^i%256+s.getD i 0) (by omega) (by omega),Int.tdiv_eq_ediv_of_nonneg (by omega),uQ (by omega) (by omega),Int.add_assoc]
   refine ⟨?_,by rw [hsc];omega,by rw [hsc];omega⟩
   rw [hsc,Bm,Bm,Int.pow_succ]
   have e2:vs (fun j=>a/256^j%256) i+256^i*(a/256^i%256)+(vs (fun j=>s.getD j 0) i+256^i*s.getD i 0)=(vs (fun j=>a/256^j%256) i+vs (fun j=>s.getD j 0) i)+256^i*(a/256^i%256+s.getD i 0):=by
    rw [Int.mul_add];omega
   rw [e2,<- Int.ediv_ediv_of_nonneg (by omega),Int.add_mul_ediv_left _ _ (by omega),<- e]
theorem YT {a:Int} {s:List Int} (hs:bI s):Se (num a) s=(List.range 16).map (nb (a+vs (fun j=>s.getD j 0) 16)):=by
 unfold Se
 refine List.map_congr_left fun i hi=>?_
 have hi:i<16:=by simpa using hi
 obtain ⟨e,h0,h1⟩:=aGu (a:=a) hs i (by omega)
 have hd:(num a).getD i 0=a/256^i%256:=Yy a (by omega)
 obtain ⟨hf0,hf1⟩:=hs.get i
 have hP:(0:Int)<256^i:=Int.pow_pos (by decide)
 have FU:0<=a/256^i%256/\a/256^i%256<256:=⟨Int.emod_nonneg _ (by decide),Int.emod_lt_of_pos _ (by decide)⟩
 rw [hd,uQ (x:=sc (num a) s i+a/256^i%256) (by omega) (by omega),uQ (x:=s.getD i 0) (by omega) (by omega),uQ (x:=sc (num a) s i+a/256^i%256+s.getD i 0) (by omega) (by omega),Int.tmod_eq_emod_of_nonneg (by omega),IntKind.wrap_u8,e]
 unfold nb
 have e1:=Dy (fun j=>s.getD j 0) (16-(i+1)) (i+1)
 rw [show i+1+(16-(i+1))=16 from by omega,Bm (fun j=>s.getD j 0) i] at e1
 have e3:vs (fun j=>a/256^j%256) i=a%256^i:=aKu a i
 have e4:a=a%256^i+256^i*(a/256^i):=(Int.emod_add_mul_ediv a _).symm
 generalize vs (fun j=>s.getD (i+1+j) 0) (16-(i+1))=R at e1
 generalize vs (fun j=>s.getD j 0) i=S at *
 generalize s.getD i 0=f at *
 rw [e3,e1,Int.pow_succ]
 generalize hP':(256:Int)^i=P at *
 generalize hQ:a/P=Q at *
 have e5:a+(S+P*f+P*256*R)=(a%P+S)+P*(Q+f+256*R):=by
  have:P*(Q+f+256*R)=P*Q+P*f+P*256*R:=by rw [Int.mul_add,Int.mul_add,Int.mul_assoc]
  omega
 rw [e5,Int.add_mul_ediv_left _ _ (by omega)]
 omega
theorem bGx (b0 b1 b2 b3 b4 b5 b6 b7 b8 b9 dF dE dD dJ dI gZ:Int) :
 V [b0,b1,b2,b3,b4,b5,b6,b7,b8,b9,dF,dE,dD,dJ,dI,gZ,1]=n3 (V [b0,b1,b2,b3,b4,b5,b6,b7]) (V [b8,b9,dF,dE,dD,dJ,dI,gZ]) 1:=by
 simp only [uT,Dw]
 unfold n3
 omega
theorem aTp (b0 b1 b2 b3 b4 b5 b6 b7 b8 b9 dF dE dD dJ dI gZ:Int) :
 V [b0,b1,b2,b3,b4,b5,b6,b7,b8,b9,dF,dE,dD,dJ,dI,gZ]=V [b0,b1,b2,b3,b4,b5,b6,b7]+18446744073709551616*V [b8,b9,dF,dE,dD,dJ,dI,gZ]:=by
 simp only [uT,Dw]
 omega
end M
def iB (X:SV):SB:=.own [.bool true false,X] 146
def aIv:SV:=.raw (.slice none 0 0)
def faW (m:Nat) (ys:List SV):List (Nat × SB):=[(63,iB (.aJ 65 false 0 m 6)),(65,.own ys 196)]
def aSr (iT:Nat) (y0 y1:Int):bL:=match iT with
 | 0=>{ val:=.ptr 61 true 0,wr:=(61,iB aIv)::faW 0 (wc [y0,y1,0,0,0,0]) }
 | 1=>{ val:=.ptr 61 true 0,new:=[.own [.int false .u64 y0] 196],wr:=(61,iB (.aJ 100 true 0 1 1))::faW 1 (wc [y0,y1,0,0,0,0]) }
 | _=>{ val:=.ptr 61 true 0,new:=[.own (wc [y0,y1,0,0,0,0]) 196],wr:=(61,iB (.aJ 100 true 0 2 6))::faW 2 (wc [y0,y1,0,0,0,0]) }
theorem Lk {m:Nat} {ys:List SV} {e:bL} (h:aE Tryz.prog Γv 102 Av (fun l=>look l (So (.aJ 65 true 0 m 6) ys)) 100 100 e):aE Tryz.prog Γv 102 Av (fun l=>look l (So (.aJ 65 false 0 m 6) ys)) 100 100 e:=
 aE.reL (L:=So (.aJ 65 true 0 m 6) ys) (L':=So (.aJ 65 false 0 m 6) ys) h ⟨rfl,⟨rfl,fun _=>rfl⟩,rfl,⟨rfl,fun _=>rfl⟩,rfl,cE _,rfl,cE _,rfl,cE _,trivial⟩ (fun _=>rfl)
open M in
theorem PO {iT:Nat} (Gu:iT<3) {y0 y1:Int} (h:iT=nl [y0,y1]):aE Tryz.prog Γv 102 Av (fun l=>look l (So (.aJ 65 false 0 iT 6) (wc [y0,y1,0,0,0,0]))) 100 100 (aSr iT y0 y1):=by
 rcases VB y0 y1 with ⟨h',rfl,rfl⟩ | ⟨h',m0,rfl⟩ | ⟨h',m1⟩ <;> rw [h'] at h <;> subst h
 .exact Lk (((((HA [] []).call (aXl 0) (by simp)).bF 63 _ rfl (by decide)).bF 65 _ rfl (by decide)).re rfl (fun _=>rfl) trivial ⟨rfl,⟨rfl,fun _=>rfl⟩,rfl,⟨rfl,fun _=>rfl⟩,rfl,⟨rfl,fun _=>rfl⟩,trivial⟩)
 .exact Lk (((((HA [] []).call (aXk y0) (by simp)).bF 63 _ rfl (by decide)).bF 65 _ rfl (by decide)).re rfl (fun _=>rfl) ⟨⟨rfl,fun _=>rfl⟩,trivial⟩ ⟨rfl,⟨rfl,fun _=>rfl⟩,rfl,⟨rfl,fun _=>rfl⟩,rfl,⟨rfl,fun _=>rfl⟩,trivial⟩)
 .exact Lk (((((HA [] []).call (aXj y0 y1) (by simp)).bF 63 _ rfl (by decide)).bF 65 _ rfl (by decide)).re rfl (fun _=>rfl) ⟨⟨rfl,fun _=>rfl⟩,trivial⟩ ⟨rfl,⟨rfl,fun _=>rfl⟩,rfl,⟨rfl,fun _=>rfl⟩,rfl,⟨rfl,fun _=>rfl⟩,trivial⟩)
open M in
def JT (iT:Nat) (vs:List SV) (T:bA):Option Canon:=match vs with
 | [.ptr l1 true 0,.ptr l2 true 0,.ptr l3 true 0]=>match Nat.beq l1 l2,T l1,T l3 with
   | true,some (.own [.bool _ _,X] 146),some (.own [.bool _ _,.aJ ly _ 0 m 6] 146)=>match T ly with
     | some (.own ys 196)=>match dA .u64 ys with
       | some (y0::y1::_)=>match X with
         | .raw (.slice none 0 0)=>match Nat.blt iT 3 with
           | true=>some { eN:=Av,T0:=So (.aJ 65 false 0 iT 6) (wc [y0,y1,0,0,0,0]),vl:=[(61,.lab l1 0),(63,.lab l3 0),(65,.lab ly 0)],e0:=aSr iT y0 y1,conds:=[iT=nl [y0,y1]] }
           | false=>none
         | .aJ lx _ 0 n ca=>match T lx with
           | some (.own xs 196)=>match dA .u64 xs with
             | some (x0::x1::x2::_)=>some { eN:=Av,T0:=VO (.aJ 64 false 0 n ca) (.aJ 65 false 0 m 6) (wc (x0::x1::x2::List.replicate (ca-3) 0)) (wc [y0,y1,0,0,0,0]),vl:=[(61,.lab l1 0),(63,.lab l3 0),(64,.lab lx 0),(65,.lab ly 0)],e0:=faE (n3 x0 x1 x2+(y0+18446744073709551616*y1)) ca (.aJ 65 false 0 m 6) (wc [y0,y1,0,0,0,0]),conds:=[ca=6\/ca=7\/ca=8\/ca=9,U x0,U x1,0<=x2/\x2<4,U y0,U y1,n=nl [x0,x1,x2],m=nl [y0,y1]] }
             | _=>none
           | _=>none
         | _=>none
       | _=>none
     | _=>none
   | _,_,_=>none
 | _=>none
theorem aOm (iT:Nat) (Γ:Env) (hg:Γ.aT=aB):aI Tryz.prog Γ 102 (aL aB 100 (JT iT)):=by
 refine aW hg fun vs T c hd hc=>?_
 unfold JT at hd
 split at hd
 case h_2=>cases hd
 split at hd
 case h_2=>cases hd
 split at hd
 case h_2=>cases hd
 split at hd
 case h_2=>cases hd
 split at hd
 case h_3=>cases hd
 .split at hd
  case h_2=>cases hd
  rename_i cM
  cases hd
  exact (PO (by simpa [Nat.blt_eq] using cM) (hc _ (by simp))).words (by rw [hg];rfl) (fun _=>rfl) (fun _ _ h=>h) (fun _=>rfl) rfl rfl
 .split at hd
  case h_2=>cases hd
  split at hd
  case h_2=>cases hd
  cases hd
  exact (aEm (hc _ (by simp)) (hc _ (by simp)) (hc _ (by simp)) (hc _ (by simp)) (hc _ (by simp)) (hc _ (by simp)) (hc _ (by simp)) (hc _ (by simp))).words (by rw [hg];rfl) (fun _=>rfl) (fun _ _ h=>h) (fun _=>rfl) rfl rfl
open M in
theorem OI {ca:Nat} (lS:ca=6\/ca=7\/ca=8\/ca=9) {k:Nat} {n0 n1 n2:Int} (h0:U n0) (h1:U n1) (h2:0<=n2/\n2<8) (hk:k=nl [n0,n1,n2]) :
 aE Tryz.prog Γv 99 nF (fun l=>look l (AH (.aJ 63 false 0 k ca) (wc (n0::n1::n2::List.replicate (ca-3) 0)))) 100 100 (ER (n0+18446744073709551616*n1) (TX (.aJ 63 false 0 k ca) (wc (n0::n1::n2::List.replicate (ca-3) 0)))):=by
 rcases nl3 n0 n1 n2 with ⟨h,rfl,rfl,rfl⟩ | ⟨h,m0,rfl,rfl⟩ | ⟨h,m1,rfl⟩ | ⟨h,m2⟩ <;> rw [h] at hk <;> subst hk
 .exact OM ca _
 .have:=Pr (b:=false) ca h0 (wc (0::0::List.replicate (ca-3) 0))
  rw [show n0+18446744073709551616*0=n0 from by omega]
  exact this
 .exact OL (b:=false) ca h0 h1 (wc (0::List.replicate (ca-3) 0))
 .exact OK lS h0 h1 m2 h2.1 h2.2
open M in
def JE (vs:List SV) (T:bA):Option Canon:=match vs with
 | [.ptr l1 true 0,.aJ lo true 0 16 16]=>match T l1 with
   | some (.own [.bool _ _,X] 146)=>match X with
     | .raw (.slice none 0 0)=>some { eN:=nF,T0:=aJa,vl:=[(61,.lab l1 0),(62,.lab lo 0)],e0:=ER 0 [(61,.own [.bool true false,.raw (.slice none 0 0)] 146)] }
     | .aJ lx _ 0 k c=>match T lx with
       | some (.own xs 196)=>match dA .u64 xs with
         | some [a0]=>some { eN:=nF,T0:=AH (.aJ 63 false 0 1 c) (ww a0 []),vl:=[(61,.lab l1 0),(62,.lab lo 0),(63,.lab lx 0)],e0:=ER a0 (TX (.aJ 63 false 0 1 c) (ww a0 [])),conds:=[U a0] }
         | some (a0::a1::a2::_)=>some { eN:=nF,T0:=AH (.aJ 63 false 0 k c) (wc (a0::a1::a2::List.replicate (c-3) 0)),vl:=[(61,.lab l1 0),(62,.lab lo 0),(63,.lab lx 0)],e0:=ER (a0+18446744073709551616*a1) (TX (.aJ 63 false 0 k c) (wc (a0::a1::a2::List.replicate (c-3) 0))),conds:=[c=6\/c=7\/c=8\/c=9,U a0,U a1,0<=a2/\a2<8,k=nl [a0,a1,a2]] }
         | _=>none
       | _=>none
     | _=>none
   | _=>none
 | _=>none
theorem aWb (Γ:Env) (hg:Γ.aT=aB):aI Tryz.prog Γ 99 (aL aB 100 JE):=by
 refine aW hg fun vs T c hd hc=>?_
 unfold JE at hd
 split at hd
 case h_2=>cases hd
 split at hd
 case h_2=>cases hd
 split at hd
 case h_3=>cases hd
 .cases hd
  exact OJ.words (by rw [hg];rfl) (fun _=>rfl) (fun _ _ h=>h) (fun _=>rfl) rfl rfl
 .split at hd
  case h_2=>cases hd
  split at hd
  case h_3=>cases hd
  .cases hd
   exact (Pr _ (hc _ (by simp)) _).words (by rw [hg];rfl) (fun _=>rfl) (fun _ _ h=>h) (fun _=>rfl) rfl rfl
  .cases hd
   exact (OI (hc _ (by simp)) (hc _ (by simp)) (hc _ (by simp)) (hc _ (by simp)) (hc _ (by simp))).words (by rw [hg];rfl) (fun _=>rfl) (fun _ _ h=>h) (fun _=>rfl) rfl rfl
def prL:List (Nat × SB):=[(17,.fS [.int true .i64 40]),(18,.fS [.int true .i64 40])]
def prE:bL:={ val:=.ptr 100 true 0,new:=[.own [.bool true false,.aJ 101 true 0 3 8] 146,.own Gg 196] }
theorem aMr:aF (env fD 22) Tryz.f90 true [] 400 [.int true .u64 130,.int true .i64 5] (fun l=>look l prL) 100 100=some prE:=by kernel_rfl
theorem aBg:aE Tryz.prog Γv 90 [.int true .u64 130,.int true .i64 5] (fun l=>look l prL) 100 100 prE:=
 ((aM (bP fD 22) (bV fD (fun f S h Γ _=>qC f S h Γ) 22) mix Tryz.func90 (by kernel_rfl) true [] 400:aI Tryz.prog (env fD 22) 90 _).call aMr (by simp [prE])).re rfl (fun _=>rfl) ⟨⟨rfl,fun _=>rfl⟩,⟨rfl,fun _=>rfl⟩,trivial⟩ trivial
def IH (vs:List SV) (_:bA):Option Canon:=match vs with
 | [.int true .u64 130,.int true .i64 5]=>some { eN:=[.int true .u64 130,.int true .i64 5],T0:=prL,vl:=[],e0:=prE }
 | _=>none
theorem aVd (Γ:Env) (hg:Γ.aT=aB):aI Tryz.prog Γ 90 (aL aB 100 IH):=by
 refine aW hg fun vs T c hd hc=>?_
 unfold IH at hd
 split at hd
 case h_2=>cases hd
 cases hd
 exact aBg.words (by rw [hg];rfl) (fun _=>rfl) (fun _ _ h=>h) (fun _=>rfl) rfl rfl
noncomputable def exG (iT gE nW:Nat):Nat->Option Sum:=dO (dO (dO (exT iT gE) 102 (aL aB 100 (JT nW))) 99 (aL aB 100 JE)) 90 (aL aB 100 IH)
theorem aPh (iT gE nW:Nat):∀ f S,exG iT gE nW f=some S->∀ Γ:Env,Γ.aT=aB->aI Tryz.prog Γ f S:=bE (bE (bE (aPf iT gE) 102 _ (aOm nW)) 99 _ aWb) 90 _ aVd
end Go.Proofs.YticicdfijghigaaGreatDoor.Sx
