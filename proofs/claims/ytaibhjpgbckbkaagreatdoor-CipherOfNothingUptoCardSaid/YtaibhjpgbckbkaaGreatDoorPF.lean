/- A part of the proof of CipherOfNothing: Big13 to Big26. -/
import Derived.Test.YtaibhjpgbckbkaaGreatDoorPE
open Go
set_option maxRecDepth 100000
namespace Go.Proofs.YtaibhjpgbckbkaaGreatDoor.Sx
def nB:List SB:=[.own [.bool true false,.raw (.slice none 0 0)] 122]
theorem oJ (h:Bool) (iq ir:Nat):aH Tryz.prog (env (QT h iq ir) 22) 70 (aR (env (QT h iq ir) 22) Tryz.f70 true [] 400):=aY (bH _ 22) (bJ _ (XN h iq ir) 22) mix Tryz.func70 (by kernel_rfl) true [] 400
theorem Ym (ca ct:Nat) (xs ys:List SV):aD Tryz.prog Γv 70 iY (fun l=>look l (sC (.aI 64 false 0 0 ca) (.aI 65 false 0 0 ct) xs ys)) 100 100
 { val:=.ptr 100 true 0,new:=nB,wr:=mP (.aI 64 false 0 0 ca) (.aI 65 false 0 0 ct) ys }:=
 tB ((((((oJ true 0 0).call (WV ca ct  xs ys) (by simp)).bE 61 _ rfl (by decide)).bE 63 _ rfl (by decide)).bE 65 _ rfl (by decide)).re rfl (fun _=>rfl) ⟨⟨rfl,fun _=>rfl⟩,trivial⟩ ⟨rfl,⟨rfl,fun _=>rfl⟩,rfl,⟨rfl,fun _=>rfl⟩,rfl,⟨rfl,fun _=>rfl⟩,rfl,⟨rfl,fun _=>rfl⟩,rfl,⟨rfl,fun _=>rfl⟩,trivial⟩)
theorem Yl (ca ct:Nat) (y0:Int) (xs ys:List SV):aD Tryz.prog Γv 70 iY (fun l=>look l (sC (.aI 64 false 0 0 ca) (.aI 65 false 0 1 ct) xs (ww y0 ys))) 100 100
 { val:=.ptr 100 true 0,new:=nB,wr:=mP (.aI 64 false 0 0 ca) (.aI 65 false 0 1 ct) (ww y0 ys) }:=
 tB ((((((oJ true 0 0).call (WU ca ct y0 xs ys) (by simp)).bE 61 _ rfl (by decide)).bE 63 _ rfl (by decide)).bE 65 _ rfl (by decide)).re rfl (fun _=>rfl) ⟨⟨rfl,fun _=>rfl⟩,trivial⟩ ⟨rfl,⟨rfl,fun _=>rfl⟩,rfl,⟨rfl,fun _=>rfl⟩,rfl,⟨rfl,fun _=>rfl⟩,rfl,⟨rfl,fun _=>rfl⟩,rfl,⟨rfl,fun _=>rfl⟩,trivial⟩)
theorem Yk (ca ct:Nat) (y0 y1:Int) (xs ys:List SV):aD Tryz.prog Γv 70 iY (fun l=>look l (sC (.aI 64 false 0 0 ca) (.aI 65 false 0 2 ct) xs (ww y0 (ww y1 ys)))) 100 100
 { val:=.ptr 100 true 0,new:=nB,wr:=mP (.aI 64 false 0 0 ca) (.aI 65 false 0 2 ct) (ww y0 (ww y1 ys)) }:=
 tB ((((((oJ true 0 0).call (WT ca ct y0 y1 xs ys) (by simp)).bE 61 _ rfl (by decide)).bE 63 _ rfl (by decide)).bE 65 _ rfl (by decide)).re rfl (fun _=>rfl) ⟨⟨rfl,fun _=>rfl⟩,trivial⟩ ⟨rfl,⟨rfl,fun _=>rfl⟩,rfl,⟨rfl,fun _=>rfl⟩,rfl,⟨rfl,fun _=>rfl⟩,rfl,⟨rfl,fun _=>rfl⟩,rfl,⟨rfl,fun _=>rfl⟩,trivial⟩)
theorem Yj (ca ct:Nat) (x0:Int) (xs ys:List SV):aD Tryz.prog Γv 70 iY (fun l=>look l (sC (.aI 64 false 0 1 ca) (.aI 65 false 0 0 ct) (ww x0 xs) ys)) 100 100
 { val:=.ptr 100 true 0,new:=nB,wr:=mP (.aI 64 false 0 1 ca) (.aI 65 false 0 0 ct) ys }:=
 tB ((((((oJ true 0 0).call (WS ca ct x0 xs ys) (by simp)).bE 61 _ rfl (by decide)).bE 63 _ rfl (by decide)).bE 65 _ rfl (by decide)).re rfl (fun _=>rfl) ⟨⟨rfl,fun _=>rfl⟩,trivial⟩ ⟨rfl,⟨rfl,fun _=>rfl⟩,rfl,⟨rfl,fun _=>rfl⟩,rfl,⟨rfl,fun _=>rfl⟩,rfl,⟨rfl,fun _=>rfl⟩,rfl,⟨rfl,fun _=>rfl⟩,trivial⟩)
theorem Yg (ca ct:Nat) (x0 x1:Int) (xs ys:List SV):aD Tryz.prog Γv 70 iY (fun l=>look l (sC (.aI 64 false 0 2 ca) (.aI 65 false 0 0 ct) (ww x0 (ww x1 xs)) ys)) 100 100
 { val:=.ptr 100 true 0,new:=nB,wr:=mP (.aI 64 false 0 2 ca) (.aI 65 false 0 0 ct) ys }:=
 tB ((((((oJ true 0 0).call (WM ca ct x0 x1 xs ys) (by simp)).bE 61 _ rfl (by decide)).bE 63 _ rfl (by decide)).bE 65 _ rfl (by decide)).re rfl (fun _=>rfl) ⟨⟨rfl,fun _=>rfl⟩,trivial⟩ ⟨rfl,⟨rfl,fun _=>rfl⟩,rfl,⟨rfl,fun _=>rfl⟩,rfl,⟨rfl,fun _=>rfl⟩,rfl,⟨rfl,fun _=>rfl⟩,rfl,⟨rfl,fun _=>rfl⟩,trivial⟩)
theorem Yd (ca ct:Nat) (x0 x1 x2:Int) (xs ys:List SV):aD Tryz.prog Γv 70 iY (fun l=>look l (sC (.aI 64 false 0 3 ca) (.aI 65 false 0 0 ct) (ww x0 (ww x1 (ww x2 xs))) ys)) 100 100
 { val:=.ptr 100 true 0,new:=nB,wr:=mP (.aI 64 false 0 3 ca) (.aI 65 false 0 0 ct) ys }:=
 tB ((((((oJ true 0 0).call (WH ca ct x0 x1 x2 xs ys) (by simp)).bE 61 _ rfl (by decide)).bE 63 _ rfl (by decide)).bE 65 _ rfl (by decide)).re rfl (fun _=>rfl) ⟨⟨rfl,fun _=>rfl⟩,trivial⟩ ⟨rfl,⟨rfl,fun _=>rfl⟩,rfl,⟨rfl,fun _=>rfl⟩,rfl,⟨rfl,fun _=>rfl⟩,rfl,⟨rfl,fun _=>rfl⟩,rfl,⟨rfl,fun _=>rfl⟩,trivial⟩)
open M in
set_option maxHeartbeats 1000000 in
theorem Yi (ca ct:Nat) (xs ys:List SV) {x0 y0:Int} (gE:U x0) (fC:U y0) (hzx:x0≠0) (Zr:y0≠0) (hN:x0<aZ) (hT:y0<21267647932558653966460912964485513216):aD Tryz.prog Γv 70 iY (fun l=>look l (sC (.aI 64 false 0 1 ca) (.aI 65 false 0 1 ct) (ww x0 xs) (ww y0 ys))) 100 100
 { val:=.ptr 100 true 0,new:=rB ((x0*y0)%aZ) 6,wr:=mP (.aI 64 false 0 1 ca) (.aI 65 false 0 1 ct) (ww y0 ys) }:=by
 have:=gE.1;have:=gE.2;have:=fC.1;have:=fC.2
 have AU:x0<1361129467683753853853498429727072845819:=hN
 have Ao:1<=x0:=by omega
 have An:1<=y0:=by omega
 have jU:1<=x0*y0:=Int.le_trans (by decide) (Int.mul_le_mul Ao An (by decide) (by omega))
 have Oo:x0*y0<=1361129467683753853853498429727072845818*21267647932558653966460912964485513215:=Int.mul_le_mul (by omega) (by omega) (by omega) (by decide)
 have hE:x0*y0=x0*y0:=by grind
 have q0:=mV (x0*y0+0)
 have m0:=eM gE fC
 have Jr:U (uh (x0*y0+0)):=Ah gE fC U0
 have ul0:U (ul (x0*y0+0)):=dL _
 have hb:(y0==0)=false:=by simpa using Zr
 have hS:ul (x0*y0+0)+18446744073709551616*uh (x0*y0+0)=x0*y0:=by
  rw [hE]
  skip
  generalize x0*y0=z0 at *
  omega
 have Ok:U (ul (x0*y0+0))/\U (uh (x0*y0+0)):=by refine ⟨?_,?_⟩ <;> first | exact U0 | assumption | exact dL _
 obtain ⟨zY,zX⟩:=Ok
 have:=zY.1;have:=zY.2;have:=zX.1;have:=zX.2
 by_cases ht:uh (x0*y0+0)=0
 .have hz:(ul (x0*y0+0)≠0)=True:=eq_true (by intro e;rw [e,ht] at hS;clear hE;generalize x0*y0=zz at hS jU Oo;omega)
  have hn:nl [ul (x0*y0+0),0]=1:=(gC [ul (x0*y0+0)]).trans (by simp only [nl,if_neg (of_eq_true hz)])
  rw [ht,Int.mul_zero,Int.add_zero] at hS
  rw [<- hS]
  exact jG ((oJ true 1 0).call (WR ca ct x0 y0 xs ys) (aA (by simp only [aO,gE,fC,U0,K0,dL,Jr,hb,ht,hz,hn,and_true,true_and]))) rfl ⟨⟨rfl,fun _=>rfl⟩,⟨rfl,fun _=>rfl⟩,trivial⟩
 .have hz:(uh (x0*y0+0)≠0)=True:=eq_true ht
  have hn:nl [ul (x0*y0+0),uh (x0*y0+0)]=2:=by simp only [nl,if_neg ht]
  rw [<- hS]
  exact jG ((oJ true 2 0).call (WQ ca ct x0 y0 xs ys) (aA (by simp only [aO,gE,fC,U0,K0,dL,Jr,hb,hz,hn,and_true,true_and]))) rfl ⟨⟨rfl,fun _=>rfl⟩,⟨rfl,fun _=>rfl⟩,trivial⟩
open M in
set_option maxHeartbeats 1000000 in
theorem Yh (ca ct:Nat) (xs ys:List SV) {x0 y0 y1:Int} (gE:U x0) (fC:U y0) (iJ:U y1) (hzx:x0≠0) (Zr:y1≠0) (hN:x0<aZ) (hT:(y0+18446744073709551616*y1)<21267647932558653966460912964485513216):aD Tryz.prog Γv 70 iY (fun l=>look l (sC (.aI 64 false 0 1 ca) (.aI 65 false 0 2 ct) (ww x0 xs) (ww y0 (ww y1 ys)))) 100 100
 { val:=.ptr 100 true 0,new:=rB ((x0*(y0+18446744073709551616*y1))%aZ) 7,wr:=mP (.aI 64 false 0 1 ca) (.aI 65 false 0 2 ct) (ww y0 (ww y1 ys)) }:=by
 have:=gE.1;have:=gE.2;have:=fC.1;have:=fC.2;have:=iJ.1;have:=iJ.2
 have AU:x0<1361129467683753853853498429727072845819:=hN
 have Ao:1<=x0:=by omega
 have An:18446744073709551616<=(y0+18446744073709551616*y1):=by omega
 have jU:18446744073709551616<=x0*(y0+18446744073709551616*y1):=Int.le_trans (by decide) (Int.mul_le_mul Ao An (by decide) (by omega))
 have Oo:x0*(y0+18446744073709551616*y1)<=1361129467683753853853498429727072845818*21267647932558653966460912964485513215:=Int.mul_le_mul (by omega) (by omega) (by omega) (by decide)
 have hE:x0*(y0+18446744073709551616*y1)=y0*x0+18446744073709551616*(y1*x0):=by grind
 have q0:=mV (y0*x0+0)
 have m0:=eM fC gE
 have Jr:U (uh (y0*x0+0)):=Ah fC gE U0
 have ul0:U (ul (y0*x0+0)):=dL _
 have q1:=mV (y1*x0+uh (y0*x0+0))
 have m1:=eM iJ gE
 have ON:U (uh (y1*x0+uh (y0*x0+0))):=Ah iJ gE Jr
 have ul1:U (ul (y1*x0+uh (y0*x0+0))):=dL _
 have hb:(x0==0)=false:=by simpa using hzx
 have hS:n3 (ul (y0*x0+0)) (ul (y1*x0+uh (y0*x0+0))) (uh (y1*x0+uh (y0*x0+0)))=x0*(y0+18446744073709551616*y1):=by
  rw [hE]
  unfold n3
  generalize y0*x0=z0 at *
  generalize y1*x0=z1 at *
  omega
 have Ok:U (ul (y0*x0+0))/\U (ul (y1*x0+uh (y0*x0+0)))/\U (uh (y1*x0+uh (y0*x0+0))):=by refine ⟨?_,?_,?_⟩ <;> first | exact U0 | assumption | exact dL _
 obtain ⟨zY,zX,En⟩:=Ok
 have:=zY.1;have:=zY.2;have:=zX.1;have:=zX.2;have:=En.1;have:=En.2
 by_cases ht:uh (y1*x0+uh (y0*x0+0))=0
 .have hz:(ul (y1*x0+uh (y0*x0+0))≠0)=True:=eq_true (by intro e;rw [e,ht] at hS;clear hE;unfold n3 at hS;generalize x0*(y0+18446744073709551616*y1)=zz at hS jU Oo;omega)
  have hn:nl [ul (y0*x0+0),ul (y1*x0+uh (y0*x0+0)),0]=2:=(gC [ul (y0*x0+0),ul (y1*x0+uh (y0*x0+0))]).trans (by simp only [nl,if_neg (of_eq_true hz)])
  have hS:ul (y0*x0+0)+18446744073709551616*ul (y1*x0+uh (y0*x0+0))=x0*(y0+18446744073709551616*y1):=by rw [<- hS,ht];unfold n3;omega
  rw [<- hS]
  exact jG ((oJ true 0 2).call (WO ca ct x0 y0 y1 xs ys) (aA (by simp only [aO,gE,fC,iJ,U0,K0,dL,Jr,ON,hb,ht,hz,hn,and_true,true_and]))) rfl ⟨⟨rfl,fun _=>rfl⟩,⟨rfl,fun _=>rfl⟩,trivial⟩
 .have hz:(uh (y1*x0+uh (y0*x0+0))≠0)=True:=eq_true ht
  have hn:nl [ul (y0*x0+0),ul (y1*x0+uh (y0*x0+0)),uh (y1*x0+uh (y0*x0+0))]=3:=by simp only [nl,if_neg ht]
  rw [<- hS]
  exact jG ((oJ true 0 3).call (WN ca ct x0 y0 y1 xs ys) (aA (by simp only [aO,gE,fC,iJ,U0,K0,dL,Jr,ON,hb,hz,hn,and_true,true_and]))) rfl ⟨⟨rfl,fun _=>rfl⟩,⟨rfl,fun _=>rfl⟩,trivial⟩
open M in
set_option maxHeartbeats 1000000 in
theorem Yf (ca ct:Nat) (xs ys:List SV) {x0 x1 y0:Int} (gE:U x0) (gL:U x1) (fC:U y0) (hzx:x1≠0) (Zr:y0≠0) (hN:(x0+18446744073709551616*x1)<aZ) (hT:y0<21267647932558653966460912964485513216):aD Tryz.prog Γv 70 iY (fun l=>look l (sC (.aI 64 false 0 2 ca) (.aI 65 false 0 1 ct) (ww x0 (ww x1 xs)) (ww y0 ys))) 100 100
 { val:=.ptr 100 true 0,new:=rB (((x0+18446744073709551616*x1)*y0)%aZ) 7,wr:=mP (.aI 64 false 0 2 ca) (.aI 65 false 0 1 ct) (ww y0 ys) }:=by
 have:=gE.1;have:=gE.2;have:=gL.1;have:=gL.2;have:=fC.1;have:=fC.2
 have AU:(x0+18446744073709551616*x1)<1361129467683753853853498429727072845819:=hN
 have Ao:18446744073709551616<=(x0+18446744073709551616*x1):=by omega
 have An:1<=y0:=by omega
 have jU:18446744073709551616<=(x0+18446744073709551616*x1)*y0:=Int.le_trans (by decide) (Int.mul_le_mul Ao An (by decide) (by omega))
 have Oo:(x0+18446744073709551616*x1)*y0<=1361129467683753853853498429727072845818*21267647932558653966460912964485513215:=Int.mul_le_mul (by omega) (by omega) (by omega) (by decide)
 have hE:(x0+18446744073709551616*x1)*y0=x0*y0+18446744073709551616*(x1*y0):=by grind
 have q0:=mV (x0*y0+0)
 have m0:=eM gE fC
 have Jr:U (uh (x0*y0+0)):=Ah gE fC U0
 have ul0:U (ul (x0*y0+0)):=dL _
 have q1:=mV (x1*y0+uh (x0*y0+0))
 have m1:=eM gL fC
 have ON:U (uh (x1*y0+uh (x0*y0+0))):=Ah gL fC Jr
 have ul1:U (ul (x1*y0+uh (x0*y0+0))):=dL _
 have hb:(y0==0)=false:=by simpa using Zr
 have hS:n3 (ul (x0*y0+0)) (ul (x1*y0+uh (x0*y0+0))) (uh (x1*y0+uh (x0*y0+0)))=(x0+18446744073709551616*x1)*y0:=by
  rw [hE]
  unfold n3
  generalize x0*y0=z0 at *
  generalize x1*y0=z1 at *
  omega
 have Ok:U (ul (x0*y0+0))/\U (ul (x1*y0+uh (x0*y0+0)))/\U (uh (x1*y0+uh (x0*y0+0))):=by refine ⟨?_,?_,?_⟩ <;> first | exact U0 | assumption | exact dL _
 obtain ⟨zY,zX,En⟩:=Ok
 have:=zY.1;have:=zY.2;have:=zX.1;have:=zX.2;have:=En.1;have:=En.2
 by_cases ht:uh (x1*y0+uh (x0*y0+0))=0
 .have hz:(ul (x1*y0+uh (x0*y0+0))≠0)=True:=eq_true (by intro e;rw [e,ht] at hS;clear hE;unfold n3 at hS;generalize (x0+18446744073709551616*x1)*y0=zz at hS jU Oo;omega)
  have hn:nl [ul (x0*y0+0),ul (x1*y0+uh (x0*y0+0)),0]=2:=(gC [ul (x0*y0+0),ul (x1*y0+uh (x0*y0+0))]).trans (by simp only [nl,if_neg (of_eq_true hz)])
  have hS:ul (x0*y0+0)+18446744073709551616*ul (x1*y0+uh (x0*y0+0))=(x0+18446744073709551616*x1)*y0:=by rw [<- hS,ht];unfold n3;omega
  rw [<- hS]
  exact jG ((oJ true 0 2).call (WL ca ct x0 x1 y0 xs ys) (aA (by simp only [aO,gE,gL,fC,U0,K0,dL,Jr,ON,hb,ht,hz,hn,and_true,true_and]))) rfl ⟨⟨rfl,fun _=>rfl⟩,⟨rfl,fun _=>rfl⟩,trivial⟩
 .have hz:(uh (x1*y0+uh (x0*y0+0))≠0)=True:=eq_true ht
  have hn:nl [ul (x0*y0+0),ul (x1*y0+uh (x0*y0+0)),uh (x1*y0+uh (x0*y0+0))]=3:=by simp only [nl,if_neg ht]
  rw [<- hS]
  exact jG ((oJ true 0 3).call (WK ca ct x0 x1 y0 xs ys) (aA (by simp only [aO,gE,gL,fC,U0,K0,dL,Jr,ON,hb,hz,hn,and_true,true_and]))) rfl ⟨⟨rfl,fun _=>rfl⟩,⟨rfl,fun _=>rfl⟩,trivial⟩
open M in
set_option maxHeartbeats 1000000 in
theorem Yc (ca ct:Nat) (xs ys:List SV) {x0 x1 x2 y0:Int} (gE:U x0) (gL:U x1) (oV:U x2) (fC:U y0) (hzx:x2≠0) (Zr:y0≠0) (hN:n3 x0 x1 x2<aZ) (hT:y0<21267647932558653966460912964485513216):aD Tryz.prog Γv 70 iY (fun l=>look l (sC (.aI 64 false 0 3 ca) (.aI 65 false 0 1 ct) (ww x0 (ww x1 (ww x2 xs))) (ww y0 ys))) 100 100
 { val:=.ptr 100 true 0,new:=rB ((n3 x0 x1 x2*y0)%aZ) 8,wr:=mP (.aI 64 false 0 3 ca) (.aI 65 false 0 1 ct) (ww y0 ys) }:=by
 have:=gE.1;have:=gE.2;have:=gL.1;have:=gL.2;have:=oV.1;have:=oV.2;have:=fC.1;have:=fC.2
 have AU:n3 x0 x1 x2<1361129467683753853853498429727072845819:=hN
 have Ao:340282366920938463463374607431768211456<=n3 x0 x1 x2:=by unfold n3;omega
 have An:1<=y0:=by omega
 have jU:340282366920938463463374607431768211456<=n3 x0 x1 x2*y0:=Int.le_trans (by decide) (Int.mul_le_mul Ao An (by decide) (by omega))
 have Oo:n3 x0 x1 x2*y0<=1361129467683753853853498429727072845818*21267647932558653966460912964485513215:=Int.mul_le_mul (by omega) (by omega) (by omega) (by decide)
 have hE:n3 x0 x1 x2*y0=x0*y0+18446744073709551616*(x1*y0)+340282366920938463463374607431768211456*(x2*y0):=by unfold n3;grind
 have q0:=mV (x0*y0+0)
 have m0:=eM gE fC
 have Jr:U (uh (x0*y0+0)):=Ah gE fC U0
 have ul0:U (ul (x0*y0+0)):=dL _
 have q1:=mV (x1*y0+uh (x0*y0+0))
 have m1:=eM gL fC
 have ON:U (uh (x1*y0+uh (x0*y0+0))):=Ah gL fC Jr
 have ul1:U (ul (x1*y0+uh (x0*y0+0))):=dL _
 have q2:=mV (x2*y0+uh (x1*y0+uh (x0*y0+0)))
 have m2:=eM oV fC
 have uh2:U (uh (x2*y0+uh (x1*y0+uh (x0*y0+0)))):=Ah oV fC ON
 have ul2:U (ul (x2*y0+uh (x1*y0+uh (x0*y0+0)))):=dL _
 have hb:(y0==0)=false:=by simpa using Zr
 have hS:n4 (ul (x0*y0+0)) (ul (x1*y0+uh (x0*y0+0))) (ul (x2*y0+uh (x1*y0+uh (x0*y0+0)))) (uh (x2*y0+uh (x1*y0+uh (x0*y0+0))))=n3 x0 x1 x2*y0:=by
  rw [hE]
  unfold n4
  generalize x0*y0=z0 at *
  generalize x1*y0=z1 at *
  generalize x2*y0=z2 at *
  omega
 have Ok:U (ul (x0*y0+0))/\U (ul (x1*y0+uh (x0*y0+0)))/\U (ul (x2*y0+uh (x1*y0+uh (x0*y0+0))))/\U (uh (x2*y0+uh (x1*y0+uh (x0*y0+0)))):=by refine ⟨?_,?_,?_,?_⟩ <;> first | exact U0 | assumption | exact dL _
 obtain ⟨zY,zX,En,Rx⟩:=Ok
 have:=zY.1;have:=zY.2;have:=zX.1;have:=zX.2;have:=En.1;have:=En.2;have:=Rx.1;have:=Rx.2
 by_cases ht:uh (x2*y0+uh (x1*y0+uh (x0*y0+0)))=0
 .have hz:(ul (x2*y0+uh (x1*y0+uh (x0*y0+0)))≠0)=True:=eq_true (by intro e;rw [e,ht] at hS;clear hE;unfold n4 at hS;generalize n3 x0 x1 x2*y0=zz at hS jU Oo;omega)
  have hn:nl [ul (x0*y0+0),ul (x1*y0+uh (x0*y0+0)),ul (x2*y0+uh (x1*y0+uh (x0*y0+0))),0]=3:=(gC [ul (x0*y0+0),ul (x1*y0+uh (x0*y0+0)),ul (x2*y0+uh (x1*y0+uh (x0*y0+0)))]).trans (by simp only [nl,if_neg (of_eq_true hz)])
  have hS:n3 (ul (x0*y0+0)) (ul (x1*y0+uh (x0*y0+0))) (ul (x2*y0+uh (x1*y0+uh (x0*y0+0))))=n3 x0 x1 x2*y0:=by rw [<- hS,ht];unfold n4 n3;omega
  rw [<- hS]
  exact jG ((oJ true 0 3).call (WG ca ct x0 x1 x2 y0 xs ys) (aA (by simp only [aO,gE,gL,oV,fC,U0,K0,dL,Jr,ON,uh2,hb,ht,hz,hn,and_true,true_and]))) rfl ⟨⟨rfl,fun _=>rfl⟩,⟨rfl,fun _=>rfl⟩,trivial⟩
 .have hz:(uh (x2*y0+uh (x1*y0+uh (x0*y0+0)))≠0)=True:=eq_true ht
  have hn:nl [ul (x0*y0+0),ul (x1*y0+uh (x0*y0+0)),ul (x2*y0+uh (x1*y0+uh (x0*y0+0))),uh (x2*y0+uh (x1*y0+uh (x0*y0+0)))]=4:=by simp only [nl,if_neg ht]
  rw [<- hS]
  exact jG ((oJ true 0 4).call (WE ca ct x0 x1 x2 y0 xs ys) (aA (by simp only [aO,gE,gL,oV,fC,U0,K0,dL,Jr,ON,uh2,hb,hz,hn,and_true,true_and]))) rfl ⟨⟨rfl,fun _=>rfl⟩,⟨rfl,fun _=>rfl⟩,trivial⟩
open M in
set_option maxHeartbeats 1000000 in
theorem Ye (ca ct:Nat) (xs ys:List SV) {x0 x1 y0 y1:Int} (gE:U x0) (gL:U x1) (fC:U y0) (iJ:U y1) (hzx:x1≠0) (Zr:y1≠0) (hN:(x0+18446744073709551616*x1)<aZ) (hT:(y0+18446744073709551616*y1)<21267647932558653966460912964485513216):aD Tryz.prog Γv 70 iY (fun l=>look l (sC (.aI 64 false 0 2 ca) (.aI 65 false 0 2 ct) (ww x0 (ww x1 xs)) (ww y0 (ww y1 ys)))) 100 100
 { val:=.ptr 100 true 0,new:=rB (((x0+18446744073709551616*x1)*(y0+18446744073709551616*y1))%aZ) 8,wr:=mP (.aI 64 false 0 2 ca) (.aI 65 false 0 2 ct) (ww y0 (ww y1 ys)) }:=by
 have:=gE.1;have:=gE.2;have:=gL.1;have:=gL.2;have:=fC.1;have:=fC.2;have:=iJ.1;have:=iJ.2
 have AU:(x0+18446744073709551616*x1)<1361129467683753853853498429727072845819:=hN
 have Ao:18446744073709551616<=(x0+18446744073709551616*x1):=by omega
 have An:18446744073709551616<=(y0+18446744073709551616*y1):=by omega
 have jU:340282366920938463463374607431768211456<=(x0+18446744073709551616*x1)*(y0+18446744073709551616*y1):=Int.le_trans (by decide) (Int.mul_le_mul Ao An (by decide) (by omega))
 have Oo:(x0+18446744073709551616*x1)*(y0+18446744073709551616*y1)<=1361129467683753853853498429727072845818*21267647932558653966460912964485513215:=Int.mul_le_mul (by omega) (by omega) (by omega) (by decide)
 have hE:(x0+18446744073709551616*x1)*(y0+18446744073709551616*y1)=x0*y0+18446744073709551616*(x0*y1)+18446744073709551616*(x1*y0)+340282366920938463463374607431768211456*(x1*y1):=by grind
 cases BN:(y0 != 0) with
 | false=>
   have AJ:=eM gE iJ
   obtain ⟨qa0,Gx,wD⟩:q0 x0 y1+18446744073709551616*k0 x0 y1=x0*y1+0+0/\U (q0 x0 y1)/\U (k0 x0 y1):=mY AJ.1 AJ.2 U0 U0
   have AI:=eM gL iJ
   obtain ⟨qa1,Ag,yO⟩:q1 x0 x1 y1+18446744073709551616*k1 x0 x1 y1=x1*y1+0+k0 x0 y1/\U (q1 x0 x1 y1)/\U (k1 x0 x1 y1):=mY AI.1 AI.2 U0 wD
   have hb:(y0 != 0)=false:=by simpa using BN
   have y00:y0=0:=by simpa using hb
   have sL:(y1 != 0)=true:=by simpa using Zr
   rw [y00] at hE
   simp only [Int.mul_zero,Int.zero_add,Int.add_zero] at hE
   have hS:n4 0 (q0 x0 y1) (q1 x0 x1 y1) (k1 x0 x1 y1)=(x0+18446744073709551616*x1)*(y0+18446744073709551616*y1):=by
    rw [y00,Int.zero_add,hE]
    unfold n4
    generalize x0*y1=z0 at *
    generalize x1*y1=z1 at *
    omega
   have Ok:U (0)/\U (q0 x0 y1)/\U (q1 x0 x1 y1)/\U (k1 x0 x1 y1):=by refine ⟨?_,?_,?_,?_⟩ <;> first | exact U0 | assumption | exact dL _
   obtain ⟨zY,zX,En,Rx⟩:=Ok
   have:=zY.1;have:=zY.2;have:=zX.1;have:=zX.2;have:=En.1;have:=En.2;have:=Rx.1;have:=Rx.2
   by_cases ht:k1 x0 x1 y1=0
   .have hz:(q1 x0 x1 y1≠0)=True:=eq_true (by intro e;rw [e,ht] at hS;clear hE;unfold n4 at hS;generalize (x0+18446744073709551616*x1)*(y0+18446744073709551616*y1)=zz at hS jU Oo;omega)
    have hn:nl [0,q0 x0 y1,q1 x0 x1 y1,0]=3:=(gC [0,q0 x0 y1,q1 x0 x1 y1]).trans (by simp only [nl,if_neg (of_eq_true hz)])
    have hS:n3 0 (q0 x0 y1) (q1 x0 x1 y1)=(x0+18446744073709551616*x1)*(y0+18446744073709551616*y1):=by rw [<- hS,ht];unfold n4 n3;omega
    rw [<- hS]
    exact jG ((oJ false 0 3).call (JD ca ct x0 x1 y0 y1 xs ys) (aA (by simp only [aO,gE,gL,fC,iJ,U0,K0,dL,Gx,wD,Ag,yO,hb,sL,ht,hz,hn,and_true,true_and]))) rfl ⟨⟨rfl,fun _=>rfl⟩,⟨rfl,fun _=>rfl⟩,trivial⟩
   .have hz:(k1 x0 x1 y1≠0)=True:=eq_true ht
    have hn:nl [0,q0 x0 y1,q1 x0 x1 y1,k1 x0 x1 y1]=4:=by simp only [nl,if_neg ht]
    rw [<- hS]
    exact jG ((oJ false 0 4).call (JC ca ct x0 x1 y0 y1 xs ys) (aA (by simp only [aO,gE,gL,fC,iJ,U0,K0,dL,Gx,wD,Ag,yO,hb,sL,hz,hn,and_true,true_and]))) rfl ⟨⟨rfl,fun _=>rfl⟩,⟨rfl,fun _=>rfl⟩,trivial⟩
 | true=>
   have AJ:=eM gE fC
   obtain ⟨qa0,Gx,wD⟩:q0 x0 y0+18446744073709551616*k0 x0 y0=x0*y0+0+0/\U (q0 x0 y0)/\U (k0 x0 y0):=mY AJ.1 AJ.2 U0 U0
   have AI:=eM gL fC
   obtain ⟨qa1,Ag,yO⟩:q1 x0 x1 y0+18446744073709551616*k1 x0 x1 y0=x1*y0+0+k0 x0 y0/\U (q1 x0 x1 y0)/\U (k1 x0 x1 y0):=mY AI.1 AI.2 U0 wD
   have mb0:=eM gE iJ
   obtain ⟨qb0,PQ,Vt⟩:r0 x0 x1 y0 y1+18446744073709551616*Gk x0 x1 y0 y1=x0*y1+q1 x0 x1 y0+0/\U (r0 x0 x1 y0 y1)/\U (Gk x0 x1 y0 y1):=mY mb0.1 mb0.2 Ag U0
   have mb1:=eM gL iJ
   obtain ⟨qb1,PO,AX⟩:e1 x0 x1 y0 y1+18446744073709551616*f1 x0 x1 y0 y1=x1*y1+k1 x0 x1 y0+Gk x0 x1 y0 y1/\U (e1 x0 x1 y0 y1)/\U (f1 x0 x1 y0 y1):=mY mb1.1 mb1.2 yO Vt
   have hb:(y0 != 0)=true:=BN
   have sL:(y1 != 0)=true:=by simpa using Zr
   have hS:n4 (q0 x0 y0) (r0 x0 x1 y0 y1) (e1 x0 x1 y0 y1) (f1 x0 x1 y0 y1)=(x0+18446744073709551616*x1)*(y0+18446744073709551616*y1):=by
    rw [hE]
    unfold n4
    generalize x0*y0=z0 at *
    generalize x0*y1=z1 at *
    generalize x1*y0=z2 at *
    generalize x1*y1=z3 at *
    omega
   have Ok:U (q0 x0 y0)/\U (r0 x0 x1 y0 y1)/\U (e1 x0 x1 y0 y1)/\U (f1 x0 x1 y0 y1):=by refine ⟨?_,?_,?_,?_⟩ <;> first | exact U0 | assumption | exact dL _
   obtain ⟨zY,zX,En,Rx⟩:=Ok
   have:=zY.1;have:=zY.2;have:=zX.1;have:=zX.2;have:=En.1;have:=En.2;have:=Rx.1;have:=Rx.2
   by_cases ht:f1 x0 x1 y0 y1=0
   .have hz:(e1 x0 x1 y0 y1≠0)=True:=eq_true (by intro e;rw [e,ht] at hS;clear hE;unfold n4 at hS;generalize (x0+18446744073709551616*x1)*(y0+18446744073709551616*y1)=zz at hS jU Oo;omega)
    have hn:nl [q0 x0 y0,r0 x0 x1 y0 y1,e1 x0 x1 y0 y1,0]=3:=(gC [q0 x0 y0,r0 x0 x1 y0 y1,e1 x0 x1 y0 y1]).trans (by simp only [nl,if_neg (of_eq_true hz)])
    have hS:n3 (q0 x0 y0) (r0 x0 x1 y0 y1) (e1 x0 x1 y0 y1)=(x0+18446744073709551616*x1)*(y0+18446744073709551616*y1):=by rw [<- hS,ht];unfold n4 n3;omega
    rw [<- hS]
    exact jG ((oJ true 0 3).call (WJ ca ct x0 x1 y0 y1 xs ys) (aA (by simp only [aO,gE,gL,fC,iJ,U0,K0,dL,Gx,wD,Ag,yO,PQ,Vt,PO,AX,hb,sL,ht,hz,hn,and_true,true_and]))) rfl ⟨⟨rfl,fun _=>rfl⟩,⟨rfl,fun _=>rfl⟩,trivial⟩
   .have hz:(f1 x0 x1 y0 y1≠0)=True:=eq_true ht
    have hn:nl [q0 x0 y0,r0 x0 x1 y0 y1,e1 x0 x1 y0 y1,f1 x0 x1 y0 y1]=4:=by simp only [nl,if_neg ht]
    rw [<- hS]
    exact jG ((oJ true 0 4).call (WI ca ct x0 x1 y0 y1 xs ys) (aA (by simp only [aO,gE,gL,fC,iJ,U0,K0,dL,Gx,wD,Ag,yO,PQ,Vt,PO,AX,hb,sL,hz,hn,and_true,true_and]))) rfl ⟨⟨rfl,fun _=>rfl⟩,⟨rfl,fun _=>rfl⟩,trivial⟩
open M in
set_option maxHeartbeats 1000000 in
theorem Yb (ca ct:Nat) (xs ys:List SV) {x0 x1 x2 y0 y1:Int} (gE:U x0) (gL:U x1) (oV:U x2) (fC:U y0) (iJ:U y1) (hzx:x2≠0) (Zr:y1≠0) (hN:n3 x0 x1 x2<aZ) (hT:(y0+18446744073709551616*y1)<21267647932558653966460912964485513216):aD Tryz.prog Γv 70 iY (fun l=>look l (sC (.aI 64 false 0 3 ca) (.aI 65 false 0 2 ct) (ww x0 (ww x1 (ww x2 xs))) (ww y0 (ww y1 ys)))) 100 100
 { val:=.ptr 100 true 0,new:=rB ((n3 x0 x1 x2*(y0+18446744073709551616*y1))%aZ) 9,wr:=mP (.aI 64 false 0 3 ca) (.aI 65 false 0 2 ct) (ww y0 (ww y1 ys)) }:=by
 have:=gE.1;have:=gE.2;have:=gL.1;have:=gL.2;have:=oV.1;have:=oV.2;have:=fC.1;have:=fC.2;have:=iJ.1;have:=iJ.2
 have AU:n3 x0 x1 x2<1361129467683753853853498429727072845819:=hN
 have Ao:340282366920938463463374607431768211456<=n3 x0 x1 x2:=by unfold n3;omega
 have An:18446744073709551616<=(y0+18446744073709551616*y1):=by omega
 have jU:6277101735386680763835789423207666416102355444464034512896<=n3 x0 x1 x2*(y0+18446744073709551616*y1):=Int.le_trans (by decide) (Int.mul_le_mul Ao An (by decide) (by omega))
 have Oo:n3 x0 x1 x2*(y0+18446744073709551616*y1)<=1361129467683753853853498429727072845818*21267647932558653966460912964485513215:=Int.mul_le_mul (by omega) (by omega) (by omega) (by decide)
 have hE:n3 x0 x1 x2*(y0+18446744073709551616*y1)=x0*y0+18446744073709551616*(x0*y1)+18446744073709551616*(x1*y0)+340282366920938463463374607431768211456*(x1*y1)+340282366920938463463374607431768211456*(x2*y0)+6277101735386680763835789423207666416102355444464034512896*(x2*y1):=by unfold n3;grind
 cases BN:(y0 != 0) with
 | false=>
   have AJ:=eM gE iJ
   obtain ⟨qa0,Gx,wD⟩:q0 x0 y1+18446744073709551616*k0 x0 y1=x0*y1+0+0/\U (q0 x0 y1)/\U (k0 x0 y1):=mY AJ.1 AJ.2 U0 U0
   have AI:=eM gL iJ
   obtain ⟨qa1,Ag,yO⟩:q1 x0 x1 y1+18446744073709551616*k1 x0 x1 y1=x1*y1+0+k0 x0 y1/\U (q1 x0 x1 y1)/\U (k1 x0 x1 y1):=mY AI.1 AI.2 U0 wD
   have ma2:=eM oV iJ
   obtain ⟨qa2,PR,PN⟩:q2 x0 x1 x2 y1+18446744073709551616*k2 x0 x1 x2 y1=x2*y1+0+k1 x0 x1 y1/\U (q2 x0 x1 x2 y1)/\U (k2 x0 x1 x2 y1):=mY ma2.1 ma2.2 U0 yO
   have hb:(y0 != 0)=false:=by simpa using BN
   have y00:y0=0:=by simpa using hb
   have sL:(y1 != 0)=true:=by simpa using Zr
   rw [y00] at hE
   simp only [Int.mul_zero,Int.zero_add,Int.add_zero] at hE
   have hS:n4 0 (q0 x0 y1) (q1 x0 x1 y1) (q2 x0 x1 x2 y1)+115792089237316195423570985008687907853269984665640564039457584007913129639936*(k2 x0 x1 x2 y1)=n3 x0 x1 x2*(y0+18446744073709551616*y1):=by
    rw [y00,Int.zero_add,hE]
    unfold n4
    generalize x0*y1=z0 at *
    generalize x1*y1=z1 at *
    generalize x2*y1=z2 at *
    omega
   have Ok:U (0)/\U (q0 x0 y1)/\U (q1 x0 x1 y1)/\U (q2 x0 x1 x2 y1)/\U (k2 x0 x1 x2 y1):=by refine ⟨?_,?_,?_,?_,?_⟩ <;> first | exact U0 | assumption | exact dL _
   obtain ⟨zY,zX,En,Rx,uw4⟩:=Ok
   have:=zY.1;have:=zY.2;have:=zX.1;have:=zX.2;have:=En.1;have:=En.2;have:=Rx.1;have:=Rx.2;have:=uw4.1;have:=uw4.2
   have ht:k2 x0 x1 x2 y1=0:=by clear hE;unfold n4 at hS;generalize n3 x0 x1 x2*(y0+18446744073709551616*y1)=zz at hS jU Oo;omega
   have hz:(q2 x0 x1 x2 y1≠0)=True:=eq_true (by intro e;rw [e,ht] at hS;clear hE;unfold n4 at hS;generalize n3 x0 x1 x2*(y0+18446744073709551616*y1)=zz at hS jU Oo;omega)
   have hn:nl [0,q0 x0 y1,q1 x0 x1 y1,q2 x0 x1 x2 y1,0]=4:=(gC [0,q0 x0 y1,q1 x0 x1 y1,q2 x0 x1 x2 y1]).trans (by simp only [nl,if_neg (of_eq_true hz)])
   rw [ht,Int.mul_zero,Int.add_zero] at hS
   rw [<- hS]
   exact jG ((oJ false 0 4).call (JB ca ct x0 x1 x2 y0 y1 xs ys) (aA (by simp only [aO,gE,gL,oV,fC,iJ,U0,K0,dL,Gx,wD,Ag,yO,PR,PN,hb,sL,ht,hz,hn,and_true,true_and]))) rfl ⟨⟨rfl,fun _=>rfl⟩,⟨rfl,fun _=>rfl⟩,trivial⟩
 | true=>
   have AJ:=eM gE fC
   obtain ⟨qa0,Gx,wD⟩:q0 x0 y0+18446744073709551616*k0 x0 y0=x0*y0+0+0/\U (q0 x0 y0)/\U (k0 x0 y0):=mY AJ.1 AJ.2 U0 U0
   have AI:=eM gL fC
   obtain ⟨qa1,Ag,yO⟩:q1 x0 x1 y0+18446744073709551616*k1 x0 x1 y0=x1*y0+0+k0 x0 y0/\U (q1 x0 x1 y0)/\U (k1 x0 x1 y0):=mY AI.1 AI.2 U0 wD
   have ma2:=eM oV fC
   obtain ⟨qa2,PR,PN⟩:q2 x0 x1 x2 y0+18446744073709551616*k2 x0 x1 x2 y0=x2*y0+0+k1 x0 x1 y0/\U (q2 x0 x1 x2 y0)/\U (k2 x0 x1 x2 y0):=mY ma2.1 ma2.2 U0 yO
   have mb0:=eM gE iJ
   obtain ⟨qb0,PQ,Vt⟩:r0 x0 x1 y0 y1+18446744073709551616*Gk x0 x1 y0 y1=x0*y1+q1 x0 x1 y0+0/\U (r0 x0 x1 y0 y1)/\U (Gk x0 x1 y0 y1):=mY mb0.1 mb0.2 Ag U0
   have mb1:=eM gL iJ
   obtain ⟨qb1,PO,AX⟩:r1 x0 x1 x2 y0 y1+18446744073709551616*YW x0 x1 x2 y0 y1=x1*y1+q2 x0 x1 x2 y0+Gk x0 x1 y0 y1/\U (r1 x0 x1 x2 y0 y1)/\U (YW x0 x1 x2 y0 y1):=mY mb1.1 mb1.2 PR Vt
   have mb2:=eM oV iJ
   obtain ⟨qb2,aTm,aTl⟩:r2 x0 x1 x2 y0 y1+18446744073709551616*OO x0 x1 x2 y0 y1=x2*y1+k2 x0 x1 x2 y0+YW x0 x1 x2 y0 y1/\U (r2 x0 x1 x2 y0 y1)/\U (OO x0 x1 x2 y0 y1):=mY mb2.1 mb2.2 PN AX
   have hb:(y0 != 0)=true:=BN
   have sL:(y1 != 0)=true:=by simpa using Zr
   have hS:n4 (q0 x0 y0) (r0 x0 x1 y0 y1) (r1 x0 x1 x2 y0 y1) (r2 x0 x1 x2 y0 y1)+115792089237316195423570985008687907853269984665640564039457584007913129639936*(OO x0 x1 x2 y0 y1)=n3 x0 x1 x2*(y0+18446744073709551616*y1):=by
    rw [hE]
    unfold n4
    generalize x0*y0=z0 at *
    generalize x0*y1=z1 at *
    generalize x1*y0=z2 at *
    generalize x1*y1=z3 at *
    generalize x2*y0=z4 at *
    generalize x2*y1=z5 at *
    omega
   have Ok:U (q0 x0 y0)/\U (r0 x0 x1 y0 y1)/\U (r1 x0 x1 x2 y0 y1)/\U (r2 x0 x1 x2 y0 y1)/\U (OO x0 x1 x2 y0 y1):=by refine ⟨?_,?_,?_,?_,?_⟩ <;> first | exact U0 | assumption | exact dL _
   obtain ⟨zY,zX,En,Rx,uw4⟩:=Ok
   have:=zY.1;have:=zY.2;have:=zX.1;have:=zX.2;have:=En.1;have:=En.2;have:=Rx.1;have:=Rx.2;have:=uw4.1;have:=uw4.2
   have ht:OO x0 x1 x2 y0 y1=0:=by clear hE;unfold n4 at hS;generalize n3 x0 x1 x2*(y0+18446744073709551616*y1)=zz at hS jU Oo;omega
   have hz:(r2 x0 x1 x2 y0 y1≠0)=True:=eq_true (by intro e;rw [e,ht] at hS;clear hE;unfold n4 at hS;generalize n3 x0 x1 x2*(y0+18446744073709551616*y1)=zz at hS jU Oo;omega)
   have hn:nl [q0 x0 y0,r0 x0 x1 y0 y1,r1 x0 x1 x2 y0 y1,r2 x0 x1 x2 y0 y1,0]=4:=(gC [q0 x0 y0,r0 x0 x1 y0 y1,r1 x0 x1 x2 y0 y1,r2 x0 x1 x2 y0 y1]).trans (by simp only [nl,if_neg (of_eq_true hz)])
   rw [ht,Int.mul_zero,Int.add_zero] at hS
   rw [<- hS]
   exact jG ((oJ true 0 4).call (WD ca ct x0 x1 x2 y0 y1 xs ys) (aA (by simp only [aO,gE,gL,oV,fC,iJ,U0,K0,dL,Gx,wD,Ag,yO,PR,PN,PQ,Vt,PO,AX,aTm,aTl,hb,sL,ht,hz,hn,and_true,true_and]))) rfl ⟨⟨rfl,fun _=>rfl⟩,⟨rfl,fun _=>rfl⟩,trivial⟩
namespace M
theorem sh1 {b:Int} (h:Bt b):dZ .u64 (IntKind.u64.wrap b) 8=b*256:=by
 have:=h.1;have:=h.2
 have e:IntKind.u64.wrap b=b:=by rw [bP];unfold ul;omega
 rw [e]
 show IntKind.u64.wrap (b*256)=_
 rw [bP];unfold ul;omega
theorem or1 {acc b:Int} (h:Bt b) (h0:0<=acc) (h1:acc<256):oG .u64 acc (b*256)=acc+b*256:=by
 have:=h.1;have:=h.2
 obtain ⟨a,rfl⟩:=Int.eq_ofNat_of_zero_le h0
 obtain ⟨b,rfl⟩:=Int.eq_ofNat_of_zero_le h.1
 have e:(b:Int)*256=((b*2^8:Nat):Int):=by rw [Int.natCast_mul];rfl
 have OA:(2:Nat)^8=256:=rfl
 rw [e,AH,AG (by omega) (by omega)]
 omega
theorem sh2 {b:Int} (h:Bt b):dZ .u64 (IntKind.u64.wrap b) 16=b*65536:=by
 have:=h.1;have:=h.2
 have e:IntKind.u64.wrap b=b:=by rw [bP];unfold ul;omega
 rw [e]
 show IntKind.u64.wrap (b*65536)=_
 rw [bP];unfold ul;omega
theorem aWf {acc b:Int} (h:Bt b) (h0:0<=acc) (h1:acc<65536):oG .u64 acc (b*65536)=acc+b*65536:=by
 have:=h.1;have:=h.2
 obtain ⟨a,rfl⟩:=Int.eq_ofNat_of_zero_le h0
 obtain ⟨b,rfl⟩:=Int.eq_ofNat_of_zero_le h.1
 have e:(b:Int)*65536=((b*2^16:Nat):Int):=by rw [Int.natCast_mul];rfl
 have OA:(2:Nat)^16=65536:=rfl
 rw [e,AH,AG (by omega) (by omega)]
 omega
theorem sh3 {b:Int} (h:Bt b):dZ .u64 (IntKind.u64.wrap b) 24=b*16777216:=by
 have:=h.1;have:=h.2
 have e:IntKind.u64.wrap b=b:=by rw [bP];unfold ul;omega
 rw [e]
 show IntKind.u64.wrap (b*16777216)=_
 rw [bP];unfold ul;omega
theorem or3 {acc b:Int} (h:Bt b) (h0:0<=acc) (h1:acc<16777216):oG .u64 acc (b*16777216)=acc+b*16777216:=by
 have:=h.1;have:=h.2
 obtain ⟨a,rfl⟩:=Int.eq_ofNat_of_zero_le h0
 obtain ⟨b,rfl⟩:=Int.eq_ofNat_of_zero_le h.1
 have e:(b:Int)*16777216=((b*2^24:Nat):Int):=by rw [Int.natCast_mul];rfl
 have OA:(2:Nat)^24=16777216:=rfl
 rw [e,AH,AG (by omega) (by omega)]
 omega
theorem sh4 {b:Int} (h:Bt b):dZ .u64 (IntKind.u64.wrap b) 32=b*4294967296:=by
 have:=h.1;have:=h.2
 have e:IntKind.u64.wrap b=b:=by rw [bP];unfold ul;omega
 rw [e]
 show IntKind.u64.wrap (b*4294967296)=_
 rw [bP];unfold ul;omega
theorem or4 {acc b:Int} (h:Bt b) (h0:0<=acc) (h1:acc<4294967296):oG .u64 acc (b*4294967296)=acc+b*4294967296:=by
 have:=h.1;have:=h.2
 obtain ⟨a,rfl⟩:=Int.eq_ofNat_of_zero_le h0
 obtain ⟨b,rfl⟩:=Int.eq_ofNat_of_zero_le h.1
 have e:(b:Int)*4294967296=((b*2^32:Nat):Int):=by rw [Int.natCast_mul];rfl
 have OA:(2:Nat)^32=4294967296:=rfl
 rw [e,AH,AG (by omega) (by omega)]
 omega
theorem sh5 {b:Int} (h:Bt b):dZ .u64 (IntKind.u64.wrap b) 40=b*1099511627776:=by
 have:=h.1;have:=h.2
 have e:IntKind.u64.wrap b=b:=by rw [bP];unfold ul;omega
 rw [e]
 show IntKind.u64.wrap (b*1099511627776)=_
 rw [bP];unfold ul;omega
theorem or5 {acc b:Int} (h:Bt b) (h0:0<=acc) (h1:acc<1099511627776):oG .u64 acc (b*1099511627776)=acc+b*1099511627776:=by
 have:=h.1;have:=h.2
 obtain ⟨a,rfl⟩:=Int.eq_ofNat_of_zero_le h0
 obtain ⟨b,rfl⟩:=Int.eq_ofNat_of_zero_le h.1
 have e:(b:Int)*1099511627776=((b*2^40:Nat):Int):=by rw [Int.natCast_mul];rfl
 have OA:(2:Nat)^40=1099511627776:=rfl
 rw [e,AH,AG (by omega) (by omega)]
 omega
theorem sh6 {b:Int} (h:Bt b):dZ .u64 (IntKind.u64.wrap b) 48=b*281474976710656:=by
 have:=h.1;have:=h.2
 have e:IntKind.u64.wrap b=b:=by rw [bP];unfold ul;omega
 rw [e]
 show IntKind.u64.wrap (b*281474976710656)=_
 rw [bP];unfold ul;omega
theorem or6 {acc b:Int} (h:Bt b) (h0:0<=acc) (h1:acc<281474976710656):oG .u64 acc (b*281474976710656)=acc+b*281474976710656:=by
 have:=h.1;have:=h.2
 obtain ⟨a,rfl⟩:=Int.eq_ofNat_of_zero_le h0
 obtain ⟨b,rfl⟩:=Int.eq_ofNat_of_zero_le h.1
 have e:(b:Int)*281474976710656=((b*2^48:Nat):Int):=by rw [Int.natCast_mul];rfl
 have OA:(2:Nat)^48=281474976710656:=rfl
 rw [e,AH,AG (by omega) (by omega)]
 omega
theorem sh7 {b:Int} (h:Bt b):dZ .u64 (IntKind.u64.wrap b) 56=b*72057594037927936:=by
 have:=h.1;have:=h.2
 have e:IntKind.u64.wrap b=b:=by rw [bP];unfold ul;omega
 rw [e]
 show IntKind.u64.wrap (b*72057594037927936)=_
 rw [bP];unfold ul;omega
theorem or7 {acc b:Int} (h:Bt b) (h0:0<=acc) (h1:acc<72057594037927936):oG .u64 acc (b*72057594037927936)=acc+b*72057594037927936:=by
 have:=h.1;have:=h.2
 obtain ⟨a,rfl⟩:=Int.eq_ofNat_of_zero_le h0
 obtain ⟨b,rfl⟩:=Int.eq_ofNat_of_zero_le h.1
 have e:(b:Int)*72057594037927936=((b*2^56:Nat):Int):=by rw [Int.natCast_mul];rfl
 have OA:(2:Nat)^56=72057594037927936:=rfl
 rw [e,AH,AG (by omega) (by omega)]
 omega
theorem V8 (b0 b1 b2 b3 b4 b5 b6 b7:Int):V [b0,b1,b2,b3,b4,b5,b6,b7]=b0+b1*256+b2*65536+b3*16777216+b4*4294967296+b5*1099511627776+b6*281474976710656+b7*72057594037927936:=by
 simp [V,vs]
 omega
theorem xC {b0 b1 b2 b3 b4 b5 b6 b7:Int} (h0:Bt b0) (h1:Bt b1) (h2:Bt b2) (h3:Bt b3) (h4:Bt b4) (h5:Bt b5) (h6:Bt b6) (h7:Bt b7):iP b0 b1 b2 b3 b4 b5 b6 b7=V [b0,b1,b2,b3,b4,b5,b6,b7]/\U (V [b0,b1,b2,b3,b4,b5,b6,b7]):=by
 have:=h0.1;have:=h0.2;have:=h1.1;have:=h1.2;have:=h2.1;have:=h2.2;have:=h3.1;have:=h3.2;have:=h4.1;have:=h4.2;have:=h5.1;have:=h5.2;have:=h6.1;have:=h6.2;have:=h7.1;have:=h7.2
 have e:IntKind.u64.wrap b0=b0:=by rw [bP];unfold ul;omega
 rw [V8]
 unfold iP
 rw [e,sh1 h1,sh2 h2,sh3 h3,sh4 h4,sh5 h5,sh6 h6,sh7 h7]
 rw [or1 h1 (by omega) (by omega),aWf h2 (by omega) (by omega),or3 h3 (by omega) (by omega),or4 h4 (by omega) (by omega),or5 h5 (by omega) (by omega),or6 h6 (by omega) (by omega),or7 h7 (by omega) (by omega)]
 exact ⟨rfl,by unfold U;omega⟩
theorem aDv {b:Int} (h:b=1):oG .u64 0 (dZ .u64 (IntKind.u64.wrap b) 0)=1:=by subst h;decide
end M
open M in
theorem IF {b0  b1  b2  b3  b4  b5  b6  b7  b8  b9  dF  dD  dC  dB  dA  gP  iW:Int} (hb:bG [b0,b1,b2,b3,b4,b5,b6,b7,b8,b9,dF,dD,dC,dB,dA,gP,iW]) (h1:iW=1):aD Tryz.prog Γv 64 [.dO 61 0 17 0] (fun l=>look l [(61,.row 1 (bc [b0,b1,b2,b3,b4,b5,b6,b7,b8,b9,dF,dD,dC,dB,dA,gP,iW]) 5)]) 100 100
 { val:=.ptr 100 true 0,new:=[.own [.bool true false,.aI 101 true 0 3 7] 122,.own (wc [V [b0,b1,b2,b3,b4,b5,b6,b7],V [b8,b9,dF,dD,dC,dB,dA,gP],1,0,0,0,0]) 142],wr:=[(61,.row 1 (bc [b0,b1,b2,b3,b4,b5,b6,b7,b8,b9,dF,dD,dC,dB,dA,gP,iW]) 5)] }:=by
 have hs:aH Tryz.prog (env (Hh 0 3) 22) 64 (aR (env (Hh 0 3) 22) Tryz.f64 true [] 400):=aY (bH _ 22) (bJ _ (Iy 0 3) 22) mix Tryz.func64 (by kernel_rfl) true [] 400
 have e0:=(xC (hb _ (by simp)) (hb _ (by simp)) (hb _ (by simp)) (hb _ (by simp)) (hb _ (by simp)) (hb _ (by simp)) (hb _ (by simp)) (hb _ (by simp)):M.iP b0 b1 b2 b3 b4 b5 b6 b7=V [b0,b1,b2,b3,b4,b5,b6,b7]/\_).1
 have e1:=(xC (hb _ (by simp)) (hb _ (by simp)) (hb _ (by simp)) (hb _ (by simp)) (hb _ (by simp)) (hb _ (by simp)) (hb _ (by simp)) (hb _ (by simp)):M.iP b8 b9 dF dD dC dB dA gP=V [b8,b9,dF,dD,dC,dB,dA,gP]/\_).1
 have e2:=aDv h1
 refine ((hs.call (n17 b0 b1 b2 b3 b4 b5 b6 b7 b8 b9 dF dD dC dB dA gP iW) (aA ?_)).bE 61 _ rfl (by decide)).re rfl (fun _=>rfl) ⟨⟨rfl,fun _=>rfl⟩,⟨rfl,fun _=>by rw [e0,e1,e2];rfl⟩,trivial⟩ ⟨rfl,rfl,trivial⟩
 simp only [aO,e2,nl,and_true]
 simp
open M in
theorem Xp {b0  b1  b2  b3  b4  b5  b6  b7  b8  b9  dF  dD  dC  dB  dA  gP  iW  mM  mL  mK  mJ  mI  mH  mG  mF  mE  mD  mC  mB  mA  lZ  lY:Int} (hb:bG [b0,b1,b2,b3,b4,b5,b6,b7,b8,b9,dF,dD,dC,dB,dA,gP,iW,mM,mL,mK,mJ,mI,mH,mG,mF,mE,mD,mC,mB,mA,lZ,lY]):aD Tryz.prog Γv 64 [.aI 61 true 0 16 32] (fun l=>look l [(61,.eY (bc [b0,b1,b2,b3,b4,b5,b6,b7,b8,b9,dF,dD,dC,dB,dA,gP,iW,mM,mL,mK,mJ,mI,mH,mG,mF,mE,mD,mC,mB,mA,lZ,lY]))]) 100 100
 { val:=.ptr 100 true 0,new:=[.own [.bool true false,.aI 101 false 0 (nl [V [b0,b1,b2,b3,b4,b5,b6,b7],V [b8,b9,dF,dD,dC,dB,dA,gP]]) 6] 122,.own (wc [V [b0,b1,b2,b3,b4,b5,b6,b7],V [b8,b9,dF,dD,dC,dB,dA,gP],0,0,0,0]) 142] }:=by
 have hs:∀ iq,aH Tryz.prog (env (Hh iq 0) 22) 64 (aR (env (Hh iq 0) 22) Tryz.f64 true [] 400):=fun iq=>aY (bH _ 22) (bJ _ (Iy iq 0) 22) mix Tryz.func64 (by kernel_rfl) true [] 400
 have e0:=(xC (hb _ (by simp)) (hb _ (by simp)) (hb _ (by simp)) (hb _ (by simp)) (hb _ (by simp)) (hb _ (by simp)) (hb _ (by simp)) (hb _ (by simp)):M.iP b0 b1 b2 b3 b4 b5 b6 b7=V [b0,b1,b2,b3,b4,b5,b6,b7]/\_).1
 have e1:=(xC (hb _ (by simp)) (hb _ (by simp)) (hb _ (by simp)) (hb _ (by simp)) (hb _ (by simp)) (hb _ (by simp)) (hb _ (by simp)) (hb _ (by simp)):M.iP b8 b9 dF dD dC dB dA gP=V [b8,b9,dF,dD,dC,dB,dA,gP]/\_).1
 rcases OT (V [b0,b1,b2,b3,b4,b5,b6,b7]) (V [b8,b9,dF,dD,dC,dB,dA,gP]) with ⟨h,_⟩ | ⟨h,_⟩ | ⟨h,_⟩
 .refine ((hs 0).call (UP b0 b1 b2 b3 b4 b5 b6 b7 b8 b9 dF dD dC dB dA gP iW mM mL mK mJ mI mH mG mF mE mD mC mB mA lZ lY) (aA ?_)).re rfl (fun _=>rfl) ⟨⟨rfl,fun _=>by rw [h];rfl⟩,⟨rfl,fun _=>by rw [e0,e1];rfl⟩,trivial⟩ trivial
  simp only [aO,e0,e1,h,and_true]
 .refine ((hs 1).call (UO b0 b1 b2 b3 b4 b5 b6 b7 b8 b9 dF dD dC dB dA gP iW mM mL mK mJ mI mH mG mF mE mD mC mB mA lZ lY) (aA ?_)).re rfl (fun _=>rfl) ⟨⟨rfl,fun _=>by rw [h];rfl⟩,⟨rfl,fun _=>by rw [e0,e1];rfl⟩,trivial⟩ trivial
  simp only [aO,e0,e1,h,and_true]
 .refine ((hs 2).call (UN b0 b1 b2 b3 b4 b5 b6 b7 b8 b9 dF dD dC dB dA gP iW mM mL mK mJ mI mH mG mF mE mD mC mB mA lZ lY) (aA ?_)).re rfl (fun _=>rfl) ⟨⟨rfl,fun _=>by rw [h];rfl⟩,⟨rfl,fun _=>by rw [e0,e1];rfl⟩,trivial⟩ trivial
  simp only [aO,e0,e1,h,and_true]
open M in
theorem Rb {b0  b1  b2  b3  b4  b5  b6  b7  b8  b9  dF  dD  dC  dB  dA  gP  iW  mM  mL  mK  mJ  mI  mH  mG  mF  mE  mD  mC  mB  mA  lZ  lY:Int} (hb:bG [b0,b1,b2,b3,b4,b5,b6,b7,b8,b9,dF,dD,dC,dB,dA,gP,iW,mM,mL,mK,mJ,mI,mH,mG,mF,mE,mD,mC,mB,mA,lZ,lY]):aD Tryz.prog Γv 64 [.aI 61 true 16 16 16] (fun l=>look l [(61,.eY (bc [b0,b1,b2,b3,b4,b5,b6,b7,b8,b9,dF,dD,dC,dB,dA,gP,iW,mM,mL,mK,mJ,mI,mH,mG,mF,mE,mD,mC,mB,mA,lZ,lY]))]) 100 100
 { val:=.ptr 100 true 0,new:=[.own [.bool true false,.aI 101 false 0 (nl [V [iW,mM,mL,mK,mJ,mI,mH,mG],V [mF,mE,mD,mC,mB,mA,lZ,lY]]) 6] 122,.own (wc [V [iW,mM,mL,mK,mJ,mI,mH,mG],V [mF,mE,mD,mC,mB,mA,lZ,lY],0,0,0,0]) 142] }:=by
 have hs:∀ iq,aH Tryz.prog (env (Hh iq 0) 22) 64 (aR (env (Hh iq 0) 22) Tryz.f64 true [] 400):=fun iq=>aY (bH _ 22) (bJ _ (Iy iq 0) 22) mix Tryz.func64 (by kernel_rfl) true [] 400
 have e0:=(xC (hb _ (by simp)) (hb _ (by simp)) (hb _ (by simp)) (hb _ (by simp)) (hb _ (by simp)) (hb _ (by simp)) (hb _ (by simp)) (hb _ (by simp)):M.iP iW mM mL mK mJ mI mH mG=V [iW,mM,mL,mK,mJ,mI,mH,mG]/\_).1
 have e1:=(xC (hb _ (by simp)) (hb _ (by simp)) (hb _ (by simp)) (hb _ (by simp)) (hb _ (by simp)) (hb _ (by simp)) (hb _ (by simp)) (hb _ (by simp)):M.iP mF mE mD mC mB mA lZ lY=V [mF,mE,mD,mC,mB,mA,lZ,lY]/\_).1
 rcases OT (V [iW,mM,mL,mK,mJ,mI,mH,mG]) (V [mF,mE,mD,mC,mB,mA,lZ,lY]) with ⟨h,_⟩ | ⟨h,_⟩ | ⟨h,_⟩
 .refine ((hs 0).call (II b0 b1 b2 b3 b4 b5 b6 b7 b8 b9 dF dD dC dB dA gP iW mM mL mK mJ mI mH mG mF mE mD mC mB mA lZ lY) (aA ?_)).re rfl (fun _=>rfl) ⟨⟨rfl,fun _=>by rw [h];rfl⟩,⟨rfl,fun _=>by rw [e0,e1];rfl⟩,trivial⟩ trivial
  simp only [aO,e0,e1,h,and_true]
 .refine ((hs 1).call (IH b0 b1 b2 b3 b4 b5 b6 b7 b8 b9 dF dD dC dB dA gP iW mM mL mK mJ mI mH mG mF mE mD mC mB mA lZ lY) (aA ?_)).re rfl (fun _=>rfl) ⟨⟨rfl,fun _=>by rw [h];rfl⟩,⟨rfl,fun _=>by rw [e0,e1];rfl⟩,trivial⟩ trivial
  simp only [aO,e0,e1,h,and_true]
 .refine ((hs 2).call (IG b0 b1 b2 b3 b4 b5 b6 b7 b8 b9 dF dD dC dB dA gP iW mM mL mK mJ mI mH mG mF mE mD mC mB mA lZ lY) (aA ?_)).re rfl (fun _=>rfl) ⟨⟨rfl,fun _=>by rw [h];rfl⟩,⟨rfl,fun _=>by rw [e0,e1];rfl⟩,trivial⟩ trivial
  simp only [aO,e0,e1,h,and_true]
def aWd:Option SB->Option (List Int)
 | some (.own cs _)=>dV .u8 cs
 | some (.ints .u8 xs _)=>some xs
 | _=>none
open M in
def Pu (vs:List SV) (T:bA):Option Canon:=match vs with
 | [.dO l 0 17 0]=>match T l with
   | some (.row 1 cs 5)=>match dV .u8 cs with
     | some [b0,b1,b2,b3,b4,b5,b6,b7,b8,b9,dF,dD,dC,dB,dA,gP,iW]=>some { eR:=[.dO 61 0 17 0],T0:=[(61,.row 1 (bc [b0,b1,b2,b3,b4,b5,b6,b7,b8,b9,dF,dD,dC,dB,dA,gP,iW]) 5)],vl:=[(61,.lab l 0)],e0:={ val:=.ptr 100 true 0,new:=[.own [.bool true false,.aI 101 true 0 3 7] 122,.own (wc [V [b0,b1,b2,b3,b4,b5,b6,b7],V [b8,b9,dF,dD,dC,dB,dA,gP],1,0,0,0,0]) 142],wr:=[(61,.row 1 (bc [b0,b1,b2,b3,b4,b5,b6,b7,b8,b9,dF,dD,dC,dB,dA,gP,iW]) 5)] },conds:=[bG [b0,b1,b2,b3,b4,b5,b6,b7,b8,b9,dF,dD,dC,dB,dA,gP,iW],iW=1] }
     | _=>none
   | _=>none
 | [.aI l true oo 16 c]=>match aWd (T l) with
   | some [b0,b1,b2,b3,b4,b5,b6,b7,b8,b9,dF,dD,dC,dB,dA,gP,iW,mM,mL,mK,mJ,mI,mH,mG,mF,mE,mD,mC,mB,mA,lZ,lY]=>match Nat.beq oo 0&&Nat.beq c 32,Nat.beq oo 16&&Nat.beq c 16 with
     | true,_=>some { eR:=[.aI 61 true 0 16 32],T0:=[(61,.eY (bc [b0,b1,b2,b3,b4,b5,b6,b7,b8,b9,dF,dD,dC,dB,dA,gP,iW,mM,mL,mK,mJ,mI,mH,mG,mF,mE,mD,mC,mB,mA,lZ,lY]))],vl:=[(61,.lab l 0)],e0:={ val:=.ptr 100 true 0,new:=[.own [.bool true false,.aI 101 false 0 (nl [V [b0,b1,b2,b3,b4,b5,b6,b7],V [b8,b9,dF,dD,dC,dB,dA,gP]]) 6] 122,.own (wc [V [b0,b1,b2,b3,b4,b5,b6,b7],V [b8,b9,dF,dD,dC,dB,dA,gP],0,0,0,0]) 142] },conds:=[bG [b0,b1,b2,b3,b4,b5,b6,b7,b8,b9,dF,dD,dC,dB,dA,gP,iW,mM,mL,mK,mJ,mI,mH,mG,mF,mE,mD,mC,mB,mA,lZ,lY]] }
     | _,true=>some { eR:=[.aI 61 true 16 16 16],T0:=[(61,.eY (bc [b0,b1,b2,b3,b4,b5,b6,b7,b8,b9,dF,dD,dC,dB,dA,gP,iW,mM,mL,mK,mJ,mI,mH,mG,mF,mE,mD,mC,mB,mA,lZ,lY]))],vl:=[(61,.lab l 0)],e0:={ val:=.ptr 100 true 0,new:=[.own [.bool true false,.aI 101 false 0 (nl [V [iW,mM,mL,mK,mJ,mI,mH,mG],V [mF,mE,mD,mC,mB,mA,lZ,lY]]) 6] 122,.own (wc [V [iW,mM,mL,mK,mJ,mI,mH,mG],V [mF,mE,mD,mC,mB,mA,lZ,lY],0,0,0,0]) 142] },conds:=[bG [b0,b1,b2,b3,b4,b5,b6,b7,b8,b9,dF,dD,dC,dB,dA,gP,iW,mM,mL,mK,mJ,mI,mH,mG,mF,mE,mD,mC,mB,mA,lZ,lY]] }
     | _,_=>none
   | _=>none
 | _=>none
theorem aGp (Γ:Env) (hg:Γ.aU=aB):aH Tryz.prog Γ 64 (aK aB 100 Pu):=by
 refine aT hg fun vs T c hd hc=>?_
 unfold Pu at hd
 split at hd
 case h_3=>cases hd
 .split at hd
  case h_2=>cases hd
  split at hd
  case h_2=>cases hd
  cases hd
  exact (IF (hc _ (by simp)) (hc _ (by simp))).words (by rw [hg];rfl) (fun _=>rfl) (fun _ _ h=>h) (fun _=>rfl) rfl rfl
 .split at hd
  case h_2=>cases hd
  split at hd
  case h_3=>cases hd
  .cases hd
   exact (Xp (hc _ (by simp))).words (by rw [hg];rfl) (fun _=>rfl) (fun _ _ h=>h) (fun _=>rfl) rfl rfl
  .cases hd
   exact (Rb (hc _ (by simp))).words (by rw [hg];rfl) (fun _=>rfl) (fun _ _ h=>h) (fun _=>rfl) rfl rfl
open M in
def FO (iK:Nat) (vs:List SV) (T:bA):Option Canon:=match vs with
 | [.agg [.ptr lp true 0],.ptr la true 0,.ptr lb true 0]=>match T la,T lb,T lp with
   | some (.own [.bool _ _,X] 122),some (.own [.bool _ _,.aI ly _ 0 3 7] 122),some (.own [.bool _ _,.aI lq _ 0 3 8] 122)=>match T ly with
     | some (.own ys 142)=>match dV .u64 ys with
       | some (y0::y1::y2::yr)=>match X with
         | .raw (.slice none 0 0)=>match Nat.beq iK 7 with
           | true=>some { eR:=iY,T0:=sC (.raw (.slice none 0 0)) (.aI 65 true 0 3 7) [.int true .i64 40] (ww y0 (ww y1 (ww y2 (wc yr)))),vl:=[(61,.lab la 0),(62,.lab lp 0),(63,.lab lb 0),(64,.lab 17 0),(65,.lab ly 0),(66,.lab lq 0)],e0:={ val:=.ptr 100 true 0,new:=rB ((0+n3 y0 y1 y2)%aZ) 7,wr:=mP (.raw (.slice none 0 0)) (.aI 65 true 0 3 7) (ww y0 (ww y1 (ww y2 (wc yr)))) },conds:=[U y0,U y1,y2=1] }
           | false=>none
         | .aI lx _ 0 n ca=>match T lx with
           | some (.own xs 142)=>match dV .u64 xs,Nat.ble 6 ca&&Nat.ble ca 9 with
             | some (x0::x1::x2::xr),true=>match Nat.beq iK 7,Nat.beq iK 8 with
               | true,_=>some { eR:=iY,T0:=sC (.aI 64 false 0 n ca) (.aI 65 true 0 3 7) (ww x0 (ww x1 (ww x2 (wc xr)))) (ww y0 (ww y1 (ww y2 (wc yr)))),vl:=[(61,.lab la 0),(62,.lab lp 0),(63,.lab lb 0),(64,.lab lx 0),(65,.lab ly 0),(66,.lab lq 0)],e0:={ val:=.ptr 100 true 0,new:=rB ((n3 x0 x1 x2+n3 y0 y1 y2)%aZ) 7,wr:=mP (.aI 64 false 0 n ca) (.aI 65 true 0 3 7) (ww y0 (ww y1 (ww y2 (wc yr)))) },conds:=[n=nl [x0,x1,x2],n=0,U y0,U y1,y2=1] }
               | _,true=>some { eR:=iY,T0:=sC (.aI 64 false 0 n ca) (.aI 65 true 0 3 7) (ww x0 (ww x1 (ww x2 (wc xr)))) (ww y0 (ww y1 (ww y2 (wc yr)))),vl:=[(61,.lab la 0),(62,.lab lp 0),(63,.lab lb 0),(64,.lab lx 0),(65,.lab ly 0),(66,.lab lq 0)],e0:={ val:=.ptr 100 true 0,new:=rB ((n3 x0 x1 x2+n3 y0 y1 y2)%aZ) 8,wr:=mP (.aI 64 false 0 n ca) (.aI 65 true 0 3 7) (ww y0 (ww y1 (ww y2 (wc yr)))) },conds:=[n=nl [x0,x1,x2],n≠0,U x0,U x1,U x2,n3 x0 x1 x2<aZ,U y0,U y1,y2=1] }
               | _,_=>none
             | _,_=>none
           | _=>none
         | _=>none
       | _=>none
     | _=>none
   | _,_,_=>none
 | _=>none
open M in
theorem NB {n ca:Nat} (jM:ca=6\/ca=7\/ca=8\/ca=9) (xs ys:List SV) {x0 x1 x2 y0 y1 y2:Int} (hn:n=nl [x0,x1,x2]) (hn0:n≠0) (gE:U x0) (gL:U x1) (oV:U x2) (hN:n3 x0 x1 x2<aZ) (fC:U y0) (iJ:U y1) (Ab:y2=1):aD Tryz.prog Γv 68 iY (fun l=>look l (sC (.aI 64 false 0 n ca) (.aI 65 true 0 3 7) (ww x0 (ww x1 (ww x2 xs))) (ww y0 (ww y1 (ww y2 ys))))) 100 100
 { val:=.ptr 100 true 0,new:=rB ((n3 x0 x1 x2+n3 y0 y1 y2)%aZ) 8,wr:=mP (.aI 64 false 0 n ca) (.aI 65 true 0 3 7) (ww y0 (ww y1 (ww y2 ys))) }:=by
 rcases nl3 x0 x1 x2 with ⟨h,_⟩ | ⟨h,_,e1,e2⟩ | ⟨h,_,e2⟩ | ⟨h,_⟩
 .omega
 .rw [h] at hn;subst hn
  have e:n3 x0 x1 x2=x0:=by rw [e1,e2];unfold n3;omega
  rw [e] at hN |-
  exact JH jM (ww x1 (ww x2 xs)) ys gE hN fC iJ Ab
 .rw [h] at hn;subst hn
  have e:n3 x0 x1 x2=x0+18446744073709551616*x1:=by rw [e2];unfold n3;omega
  rw [e] at hN |-
  exact JG jM (ww x2 xs) ys gE gL hN fC iJ Ab
 .rw [h] at hn;subst hn
  exact JF jM xs ys gE gL oV hN fC iJ Ab
open M in
theorem aKg (iK:Nat) (Γ:Env) (hg:Γ.aU=aB):aH Tryz.prog Γ 68 (aK aB 100 (FO iK)):=by
 refine aT hg fun vs T c hd hc=>?_
 unfold FO at hd
 split at hd
 case h_2=>cases hd
 split at hd
 case h_2=>cases hd
 split at hd
 case h_2=>cases hd
 split at hd
 case h_2=>cases hd
 rename_i y0 y1 y2 yr _
 split at hd
 case h_3=>cases hd
 .split at hd
  case h_2=>cases hd
  cases hd
  exact (JE [.int true .i64 40] (wc yr) (hc _ (by simp)) (hc _ (by simp)) (hc _ (by simp))).words (by rw [hg];rfl) (fun _=>rfl) (fun _ _ h=>h) (fun _=>rfl) rfl rfl
 .split at hd
  case h_2=>cases hd
  split at hd
  case h_2=>cases hd
  rename_i n ca _ _ _ _ _ _ x0 x1 x2 xr _ jM
  simp only [Bool.and_eq_true] at jM
  have c1:=Nat.le_of_ble_eq_true jM.1
  have c2:=Nat.le_of_ble_eq_true jM.2
  split at hd
  case h_3=>cases hd
  .cases hd
   have hn:n=nl [x0,x1,x2]:=hc _ (by simp)
   have h0:n=0:=hc _ (by simp)
   rcases nl3 x0 x1 x2 with ⟨h,e0,e1,e2⟩ | ⟨h,_⟩ | ⟨h,_⟩ | ⟨h,_⟩
   .have e:n3 x0 x1 x2=0:=by rw [e0,e1,e2];rfl
    rw [e]
    subst h0
    exact (JI ca _ (wc yr) (hc _ (by simp)) (hc _ (by simp)) (hc _ (by simp))).words (by rw [hg];rfl) (fun _=>rfl) (fun _ _ h=>h) (fun _=>rfl) rfl rfl
   .omega
   .omega
   .omega
  .cases hd
   exact (NB (by omega) (wc xr) (wc yr) (hc _ (by simp)) (hc _ (by simp)) (hc _ (by simp)) (hc _ (by simp)) (hc _ (by simp)) (hc _ (by simp)) (hc _ (by simp)) (hc _ (by simp)) (hc _ (by simp))).words (by rw [hg];rfl) (fun _=>rfl) (fun _ _ h=>h) (fun _=>rfl) rfl rfl
open M in
def DU (lU:Nat) (vs:List SV) (T:bA):Option Canon:=match vs with
 | [.agg [.ptr lp true 0],.ptr la true 0,.ptr lb true 0]=>match T la,T lb,T lp with
   | some (.own [.bool _ _,.aI lx _ 0 n ca] 122),some (.own [.bool _ _,.aI ly _ 0 m ct] 122),some (.own [.bool _ _,.aI lq _ 0 3 8] 122)=>match T lx,T ly with
     | some (.own xs 142),some (.own ys 142)=>match dV .u64 xs,dV .u64 ys with
       | some (x0::x1::x2::xr),some (y0::y1::yr)=>some { eR:=iY,T0:=sC (.aI 64 false 0 n ca) (.aI 65 false 0 m ct) (ww x0 (ww x1 (ww x2 (wc xr)))) (ww y0 (ww y1 (wc yr))),vl:=[(61,.lab la 0),(62,.lab lp 0),(63,.lab lb 0),(64,.lab lx 0),(65,.lab ly 0),(66,.lab lq 0)],e0:={ val:=.ptr 100 true 0,new:=(match lU with | 0=>nB | c=>rB ((n3 x0 x1 x2*(y0+18446744073709551616*y1))%aZ) c),wr:=mP (.aI 64 false 0 n ca) (.aI 65 false 0 m ct) (ww y0 (ww y1 (wc yr))) },conds:=[n=nl [x0,x1,x2],m=nl [y0,y1],lU=(if n=0\/m=0 then 0 else n+m+4),U x0,U x1,U x2,n3 x0 x1 x2<aZ,U y0,U y1,y0+18446744073709551616*y1<21267647932558653966460912964485513216] }
       | _,_=>none
     | _,_=>none
   | _,_,_=>none
 | _=>none
open M in
theorem aOy (lU:Nat) (Γ:Env) (hg:Γ.aU=aB):aH Tryz.prog Γ 70 (aK aB 100 (DU lU)):=by
 refine aT hg fun vs T c hd hc=>?_
 unfold DU at hd
 split at hd
 case h_2=>cases hd
 split at hd
 case h_2=>cases hd
 split at hd
 case h_2=>cases hd
 split at hd
 case h_2=>cases hd
 rename_i n ca _ _ _ _ m ct _ _ _ _ _ _ _ _ _ _ _ _ _ _ _ x0 x1 x2 xr y0 y1 yr _ _
 cases hd
 have hn:n=nl [x0,x1,x2]:=hc _ (by simp)
 have hm:m=nl [y0,y1]:=hc _ (by simp)
 have hp:lU=(if n=0\/m=0 then 0 else n+m+4):=hc _ (by simp)
 have gE:U x0:=hc _ (by simp)
 have gL:U x1:=hc _ (by simp)
 have oV:U x2:=hc _ (by simp)
 have hN:n3 x0 x1 x2<aZ:=hc _ (by simp)
 have fC:U y0:=hc _ (by simp)
 have iJ:U y1:=hc _ (by simp)
 have hT:y0+18446744073709551616*y1<21267647932558653966460912964485513216:=hc _ (by simp)
 have fin:∀ {e:bR},aD Tryz.prog Γv 70 iY (fun l=>look l (sC (.aI 64 false 0 n ca) (.aI 65 false 0 m ct) (ww x0 (ww x1 (ww x2 (wc xr)))) (ww y0 (ww y1 (wc yr))))) 100 100 e->aD Tryz.prog Γ 70 iY (fun l=>look l (sC (.aI 64 false 0 n ca) (.aI 65 false 0 m ct) (ww x0 (ww x1 (ww x2 (wc xr)))) (ww y0 (ww y1 (wc yr))))) 100 100 e:=fun h=>h.words (by rw [hg];rfl) (fun _=>rfl) (fun _ _ h=>h) (fun _=>rfl) rfl rfl
 clear hc
 rcases nl3 x0 x1 x2 with ⟨h,_⟩ | ⟨h,z,e1,e2⟩ | ⟨h,z,e2⟩ | ⟨h,z⟩ <;> rw [h] at hn <;> subst hn <;> rcases OT y0 y1 with ⟨k,_⟩ | ⟨k,w,f1⟩ | ⟨k,w⟩ <;> rw [k] at hm <;> subst hm <;> simp at hp <;> subst hp
 .exact fin (Ym ca ct  (ww x0 (ww x1 (ww x2 (wc xr)))) (ww y0 (ww y1 (wc yr))))
 .exact fin (Yl ca ct y0 (ww x0 (ww x1 (ww x2 (wc xr)))) (ww y1 (wc yr)))
 .exact fin (Yk ca ct y0 y1 (ww x0 (ww x1 (ww x2 (wc xr)))) (wc yr))
 .exact fin (Yj ca ct x0 (ww x1 (ww x2 (wc xr))) (ww y0 (ww y1 (wc yr))))
 .have e:n3 x0 x1 x2=x0:=by rw [e1,e2];unfold n3;omega
  rw [e] at hN |-
  have f:y0+18446744073709551616*y1=y0:=by rw [f1];omega
  rw [f] at hT |-
  exact fin (Yi ca ct (ww x1 (ww x2 (wc xr))) (ww y1 (wc yr)) gE fC z w hN hT)
 .have e:n3 x0 x1 x2=x0:=by rw [e1,e2];unfold n3;omega
  rw [e] at hN |-
  exact fin (Yh ca ct (ww x1 (ww x2 (wc xr))) (wc yr) gE fC iJ z w hN hT)
 .exact fin (Yg ca ct x0 x1 (ww x2 (wc xr)) (ww y0 (ww y1 (wc yr))))
 .have e:n3 x0 x1 x2=x0+18446744073709551616*x1:=by rw [e2];unfold n3;omega
  rw [e] at hN |-
  have f:y0+18446744073709551616*y1=y0:=by rw [f1];omega
  rw [f] at hT |-
  exact fin (Yf ca ct (ww x2 (wc xr)) (ww y1 (wc yr)) gE gL fC z w hN hT)
 .have e:n3 x0 x1 x2=x0+18446744073709551616*x1:=by rw [e2];unfold n3;omega
  rw [e] at hN |-
  exact fin (Ye ca ct (ww x2 (wc xr)) (wc yr) gE gL fC iJ z w hN hT)
 .exact fin (Yd ca ct x0 x1 x2 (wc xr) (ww y0 (ww y1 (wc yr))))
 .have f:y0+18446744073709551616*y1=y0:=by rw [f1];omega
  rw [f] at hT |-
  exact fin (Yc ca ct (wc xr) (ww y1 (wc yr)) gE gL oV fC z w hN hT)
 .exact fin (Yb ca ct (wc xr) (wc yr) gE gL oV fC iJ z w hN hT)
noncomputable def exT (iK lU:Nat):Nat->Option Sum:=eE (eE (eE Vq 64 (aK aB 100 Pu)) 68 (aK aB 100 (FO iK))) 70 (aK aB 100 (DU lU))
theorem aIo (iK lU:Nat):∀ f S,exT iK lU f=some S->∀ Γ:Env,Γ.aU=aB->aH Tryz.prog Γ f S:=bI (bI (bI pI 64 _ aGp) 68 _ (aKg iK)) 70 _ (aOy lU)
def Az:List SV:=[.int true .u64 0,.int true .u64 0,.int true .u64 9223372036854775808]
theorem bAj (u0 u1 u2 u3 q0 h0 h1 h2 h3:Int) :
 (gD 100 (aC 100 (Gu Az (wc [u0,u1,u2,u3,0,0,0,0]) (wc [q0]))) [] (jE 4 8 1 1 1 9223372036854775808 18446744073709551615 (.int true .u64 0) 1) (jD (wc [h0,h1,h2,h3]) (wc [u0,u1,u2,u3,0,0,0,0]) (wc [q0])) 101 [61,63] jF (Bm Az (wc [u0,u1,u2,u3,0,0,0,0]) (wc [q0]) 4 8 1 1)) =
 sh (0:Int) fun z0=>
 some (.go (.loop xE),Eg,[(3:Nat)=(3:Nat),(4:Nat)=(4:Nat),(11259375:Int)=h0,z0=h1,z0=h2,z0=h3,[q0]=[q0],[u0,u1,u2,u3,z0,z0,z0,z0]=[u0,u1,u2,u3,z0,z0,z0,z0]]):=by kernel_rfl
theorem bAi (eU eW:List SV) (u0 u1 u2 u3 v1 v2 v3 q0 h0 h1 h2 h3 g0 g1 g2 g3:Int) :
 fQ Az eU eW 4 8 1 1 1 9223372036854775808 18446744073709551615 1 0 (.int true .u64 0) (.int false .u64 v3) (wc [u0,u1,u2,u3,0,0,0,0]) (wc [u0,v1,v2,v3,0,0,0,0]) (wc [q0]) (wc [q0]) (wc [h0,h1,h2,h3]) (wc [g0,g1,g2,g3]) [false,true,false,true] =
 sh (0:Int) fun z2=>
 sh (9223372036854775808:Int) fun z1=>
 sh (z2*M.dq z1 z2 u3+z2) fun z3=>
 sh (z2*M.dq z1 z2 u3+M.uh z3) fun z0=>
 sh (u1-M.ul z3-z2) fun z7=>
 sh (u2-M.ul z0-M.ub z7) fun z4=>
 sh (z1*M.dq z1 z2 u3+M.uh z0) fun z5=>
 sh (M.dq z1 z2 u3*z2) fun z6=>
 sh (u3-M.ul z5-M.ub z4) fun z8=>
 sh (M.dq z1 z2 u3) fun z9=>
 some (Cf.at Ex.normal,[],[(M.dq z1 z2 u3==z2)=true,(M.ub z8 != z2)=false,M.U u3,M.U (M.ul z5),M.K (M.ub z4),u3=u3,M.ul z5=M.ul z5,M.ub z4=M.ub z4,M.U u2,M.U (M.ul z0),M.K (M.ub z7),u2=u2,M.ul z0=M.ul z0,M.ub z7=M.ub z7,M.U u1,M.U (M.ul z3),M.K z2,u1=u1,M.ul z3=M.ul z3,z2=z2,(M.uh z5==z2)=true,M.U z1,M.U z9,M.U (M.uh z0),z1=z1,M.dq z1 z2 u3=M.dq z1 z2 u3,M.uh z0=M.uh z0,M.U z2,M.U z9,M.U (M.uh z3),z2=z2,M.dq z1 z2 u3=M.dq z1 z2 u3,M.uh z3=M.uh z3,M.U z2,M.U z9,M.U z2,z2=z2,M.dq z1 z2 u3=M.dq z1 z2 u3,z2=z2,M.gt (M.uh z6) (M.ul z6) (M.dr z1 z2 u3) u2=false,M.U (M.ul z6),M.U u2,M.uh z6=M.uh z6,M.ul z6=M.ul z6,M.dr z1 z2 u3=M.dr z1 z2 u3,u2=u2,M.U z9,M.U z2,M.dq z1 z2 u3=M.dq z1 z2 u3,z2=z2,M.U z2,M.U u3,z2<z1,z2=z2,u3=u3,(3:Nat)=(3:Nat),(4:Nat)=(4:Nat),M.ul z8=v3,M.ul z3=g0,M.ul z0=g1,M.ul z5=g2,M.uh z5=g3,[q0]=[q0],[u0,M.ul z7,M.ul z4,M.ul z8,z2,z2,z2,z2]=[u0,v1,v2,v3,z2,z2,z2,z2]]):=by kernel_rfl
theorem bAh (eU eW:List SV) (u0 u1 u2 u3 v0 v1 v2 v3 q0 q1 h0 h1 h2 h3 g0 g1 g2 g3:Int) :
 fQ Az eU eW 4 8 1 1 1 9223372036854775808 18446744073709551615 0 (-1) (.int false .u64 u3) (.int false .u64 v2) (wc [u0,u1,u2,u3,0,0,0,0]) (wc [v0,v1,v2,v3,0,0,0,0]) (wc [q0]) (wc [q1]) (wc [h0,h1,h2,h3]) (wc [g0,g1,g2,g3]) [true,false,false] =
 sh (0:Int) fun z4=>
 sh (9223372036854775808:Int) fun z1=>
 sh (z4*M.dq z1 u3 u2+z4) fun z6=>
 sh (z4*M.dq z1 u3 u2+M.uh z6) fun z0=>
 sh (u0-M.ul z6-z4) fun z2=>
 sh (z1*M.dq z1 u3 u2+M.uh z0) fun z3=>
 sh (u1-M.ul z0-M.ub z2) fun z8=>
 sh (u2-M.ul z3-M.ub z8) fun z5=>
 sh (M.dq z1 u3 u2*z4) fun z7=>
 sh (M.dq z1 u3 u2) fun z9=>
 sh (u3-M.uh z3-M.ub z5) fun cH=>
 some (Cf.at Ex.normal,[],[(M.ub cH != z4)=false,M.U u3,M.U (M.uh z3),M.K (M.ub z5),u3=u3,M.uh z3=M.uh z3,M.ub z5=M.ub z5,M.U u2,M.U (M.ul z3),M.K (M.ub z8),u2=u2,M.ul z3=M.ul z3,M.ub z8=M.ub z8,M.U u1,M.U (M.ul z0),M.K (M.ub z2),u1=u1,M.ul z0=M.ul z0,M.ub z2=M.ub z2,M.U u0,M.U (M.ul z6),M.K z4,u0=u0,M.ul z6=M.ul z6,z4=z4,M.U z1,M.U z9,M.U (M.uh z0),z1=z1,M.dq z1 u3 u2=M.dq z1 u3 u2,M.uh z0=M.uh z0,M.U z4,M.U z9,M.U (M.uh z6),z4=z4,M.dq z1 u3 u2=M.dq z1 u3 u2,M.uh z6=M.uh z6,M.U z4,M.U z9,M.U z4,z4=z4,M.dq z1 u3 u2=M.dq z1 u3 u2,z4=z4,M.gt (M.uh z7) (M.ul z7) (M.dr z1 u3 u2) u1=false,M.U (M.ul z7),M.U u1,M.uh z7=M.uh z7,M.ul z7=M.ul z7,M.dr z1 u3 u2=M.dr z1 u3 u2,u1=u1,M.U z9,M.U z4,M.dq z1 u3 u2=M.dq z1 u3 u2,z4=z4,M.U u3,M.U u2,u3<z1,u3=u3,u2=u2,(u3 != z1)=true,(3:Nat)=(3:Nat),(4:Nat)=(4:Nat),M.ul z5=v2,M.ul z6=g0,M.ul z0=g1,M.ul z3=g2,M.uh z3=g3,[M.dq z1 u3 u2]=[q1],[M.ul z2,M.ul z8,M.ul z5,M.ul cH,z4,z4,z4,z4]=[v0,v1,v2,v3,z4,z4,z4,z4]]):=by kernel_rfl
theorem bAf (eU eW:List SV) (u0 u1 u2 u3 q0 h0 h1 h2 h3:Int) :
 fQ Az eU eW 4 8 1 1 1 9223372036854775808 18446744073709551615 (-1) (-1) (.int false .u64 u2) (.int false .u64 u2) (wc [u0,u1,u2,u3,0,0,0,0]) (wc [u0,u1,u2,u3,0,0,0,0]) (wc [q0]) (wc [q0]) (wc [h0,h1,h2,h3]) (wc [h0,h1,h2,h3]) [] =
 sh (0:Int) fun z0=>
 some (Cf.at (Ex.exit 0),[],[(3:Nat)=(3:Nat),(4:Nat)=(4:Nat),u2=u2,h0=h0,h1=h1,h2=h2,h3=h3,[q0]=[q0],[u0,u1,u2,u3,z0,z0,z0,z0]=[u0,u1,u2,u3,z0,z0,z0,z0]]):=by kernel_rfl
theorem bAg (eU eW:List SV) (u0 u1 u2 u3 q0 h0 h1 h2 h3:Int) :
 Lp Az eU eW 4 8 1 1 1 9223372036854775808 18446744073709551615 (.int false .u64 u2) (wc [u0,u1,u2,u3,0,0,0,0]) (wc [q0]) (wc [h0,h1,h2,h3]) =
 sh (0:Int) fun z0=>
 some {val:=SV.eD [],wr:=[(61,SB.own [SV.int false IntKind.u64 q0] 142),(63,SB.own [SV.int false IntKind.u64 u0,SV.int false IntKind.u64 u1,SV.int false IntKind.u64 u2,SV.int false IntKind.u64 u3,SV.int false IntKind.u64 z0,SV.int false IntKind.u64 z0,SV.int false IntKind.u64 z0,SV.int false IntKind.u64 z0] 142)]}:=by kernel_rfl
open M in
theorem aJe (eU eW:List SV) (q0 h0 h1 h2 h3:Int) {u0 u1 u2 u3:Int} (a1:U u1) (a2:U u2) (a3:U u3) (hd:u3<9223372036854775808) :
 ∃ ps,fQ Az eU eW 4 8 1 1 1 9223372036854775808 18446744073709551615 1 0 (.int true .u64 0) (.int false .u64 u3) (wc [u0,u1,u2,u3,0,0,0,0]) (wc [u0,u1,u2,u3,0,0,0,0]) (wc [q0]) (wc [q0]) (wc [h0,h1,h2,h3]) (wc [0,0,0,0]) [false,true,false,true]=some (.at .normal,[],ps)/\∀ q∈ps,q:=by
 have z2:=a1.1;have z3:=a1.2;have z4:=a2.1;have z5:=a2.2;have z6:=a3.1;have z7:=a3.2
 have e0:U 9223372036854775808:=⟨by decide,by decide⟩
 have hQ:dq 9223372036854775808 0 u3=0:=by unfold dq;omega
 have hR:dr 9223372036854775808 0 u3=u3:=by unfold dr;omega
 have hg:gt 0 0 u3 u2=false:=by unfold gt;exact decide_eq_false (by omega)
 refine ⟨_,bAi eU eW u0 u1 u2 u3 _ _ _ q0 h0 h1 h2 h3 _ _ _ _,aA ?_⟩
 simp only [hQ,hR,aO,Int.mul_zero,Int.zero_mul,Int.add_zero,Int.sub_zero,ul0,Jr,sD a1,sD a2,sD a3,tX a1,tX a2,tX a3,hg,U0,K0,e0,a1,a2,a3,and_true,true_and]
 and_intros <;> first | rfl | decide
open M in
theorem aJd (eU eW:List SV) (q0:Int) {u0 u1 u2 u3:Int} (a0:U u0) (a1:U u1) (a2:U u2) (h3:0<=u3) (hd:u3<4) :
 ∃ ps,fQ Az eU eW 4 8 1 1 1 9223372036854775808 18446744073709551615 0 (-1) (.int false .u64 u3) (.int false .u64 (u2%9223372036854775808)) (wc [u0,u1,u2,u3,0,0,0,0]) (wc [u0,u1,u2%9223372036854775808,0,0,0,0,0]) (wc [q0]) (wc [dq 9223372036854775808 u3 u2]) (wc [0,0,0,0]) (wc [0,0,u2/9223372036854775808*9223372036854775808,u3]) [true,false,false]=some (.at .normal,[],ps)/\∀ q∈ps,q:=by
 have z0:=a0.1;have z1:=a0.2;have z2:=a1.1;have z3:=a1.2;have z4:=a2.1;have z5:=a2.2
 have a3:U u3:=by unfold U;omega
 have e0:U 9223372036854775808:=⟨by decide,by decide⟩
 obtain ⟨Q,hQ⟩:∃ Q,Q=dq 9223372036854775808 u3 u2:=⟨_,rfl⟩
 have hQ':Q=2*u3+u2/9223372036854775808:=by rw [hQ];unfold dq;omega
 have hR:dr 9223372036854775808 u3 u2=u2%9223372036854775808:=by unfold dr;omega
 have aQ:U Q:=by unfold U;omega
 have hl:ul (9223372036854775808*Q)=u2/9223372036854775808*9223372036854775808:=by unfold ul;omega
 have hh:uh (9223372036854775808*Q)=u3:=by unfold uh;omega
 have aP:U (u2/9223372036854775808*9223372036854775808):=by unfold U;omega
 have hs:u2-u2/9223372036854775808*9223372036854775808=u2%9223372036854775808:=by omega
 have aS:U (u2%9223372036854775808):=by unfold U;omega
 have hg:gt 0 0 (u2%9223372036854775808) u1=false:=by unfold gt;exact decide_eq_false (by omega)
 have h33:u3-u3=0:=by omega
 have e9:(u3 != 9223372036854775808)=true:=bne_iff_ne.2 (by omega)
 have cK:u3<9223372036854775808:=by omega
 refine ⟨_,bAh eU eW u0 u1 u2 u3 _ _ _ _ q0 _ 0 0 0 0 _ _ _ _,aA ?_⟩
 rw [<- hQ]
 simp only [hR,aO,Int.mul_zero,Int.zero_mul,Int.zero_add,Int.add_zero,Int.sub_zero,ul0,Jr,hl,hh,hs,h33,sD a0,sD a1,sD aS,sD U0,tX a0,tX a1,tX aS,hg,U0,K0,e0,a0,a1,a2,a3,aQ,aP,aS,e9,cK,and_true,true_and]
 first | done | (and_intros <;> first | rfl | decide)
open M in
set_option maxHeartbeats 2000000 in
theorem YI {u0 u1 u2 u3:Int} (y0:Int) (a0:U u0) (a1:U u1) (a2:U u2) (h3:0<=u3) (hd:u3<4) :
 aD Tryz.prog Γv 203 (Av 4 8 1 1) (Gu Az (wc [u0,u1,u2,u3,0,0,0,0]) (wc [y0])) 100 100 { val:=.eD [],wr:=[(61,.own (wc [dq 9223372036854775808 u3 u2]) 142),(63,.own (wc [u0,u1,u2%9223372036854775808,0,0,0,0,0]) 142)] }:=by
 have a3:U u3:=by unfold U;omega
 refine bU kW kX Tryz.func203 (by kernel_rfl) rfl (Nat.le_of_ble_eq_true (by kernel_rfl)) rfl [] ?_
 intro YS Mx V0 Q hb H
 have aM:=kW
 have aE:=kX
 refine G.gD aM aE mix hb [] (bAj u0 u1 u2 u3 y0 11259375 0 0 0) (aA (by simp only [aO,and_true])) ?_
 refine G.loop (fun r s=>(r=2/\s=aN (jE 4 8 1 1 1 9223372036854775808 18446744073709551615 (.int true .u64 0) 1) (jD (wc [11259375,0,0,0]) (wc [u0,u1,u2,u3,0,0,0,0]) (wc [y0])) 101 [61,63] jF)
  \/ (r=1/\s=aN (jE 4 8 1 1 1 9223372036854775808 18446744073709551615 (.int false .u64 u3) 0) (jD (wc [0,0,0,0]) (wc [u0,u1,u2,u3,0,0,0,0]) (wc [y0])) 101 [61,63] jF)
  \/ (r=0/\s=aN (jE 4 8 1 1 1 9223372036854775808 18446744073709551615 (.int false .u64 (u2%9223372036854775808)) (-1)) (jD (wc [0,0,u2/9223372036854775808*9223372036854775808,u3]) (wc [u0,u1,u2%9223372036854775808,0,0,0,0,0]) (wc [dq 9223372036854775808 u3 u2])) 101 [61,63] jF)) (r0:=2) (.inl ⟨rfl,rfl⟩) ?_
 rintro r s (⟨rfl,rfl⟩ | ⟨rfl,rfl⟩ | ⟨rfl,rfl⟩)
 .obtain ⟨ps,e,hp⟩:=aJe (wc [u0,u1,u2,u3,0,0,0,0]) (wc [y0]) y0 11259375 0 0 0 (u0:=u0) a1 a2 a3 (by omega)
  exact G.eK aM aE mix hb _ e hp 1 (by omega) (.inr (.inl ⟨rfl,rfl⟩))
 .obtain ⟨ps,e,hp⟩:=aJd (wc [u0,u1,u2,u3,0,0,0,0]) (wc [y0]) y0 a0 a1 a2 h3 hd
  exact G.eK aM aE mix hb _ e hp 0 (by omega) (.inr (.inr ⟨rfl,rfl⟩))
 .exact G.gD aM aE mix hb [] (bAf _ _ u0 u1 _ _ _ _ _ _ _) (aA (by simp only [aO,and_true])) (G.leave (fun h=>by cases h)
   (G.fin aM aE mix [] H (bAg _ _ u0 u1 _ _ _ _ _ _ _) (by simp) rfl rfl rfl))
open M in
def FF (vs:List SV) (T:bA):Option Canon:=match vs with
 | [.aI lq true 0 1 1,.ptr ls true 0,.aI lu true 0 4 8,.dO lv 0 3 0]=>match T lq,T ls,T lu,T lv with
   | some (.own qs 142),some (.own [.raw (.pointer none)] 236),some (.own us 142),some (.row 1 _ 142)=>match dV .u64 qs,dV .u64 us with
     | some [y0],some [u0,u1,u2,u3,_,_,_,_]=>some { eR:=Av 4 8 1 1,T0:=[(61,.own (wc [y0]) 142),(62,.own [.raw (.pointer none)] 236),(63,.own (wc [u0,u1,u2,u3,0,0,0,0]) 142),(64,.row 1 Az 142)],vl:=[(61,.lab lq 0),(62,.lab ls 0),(63,.lab lu 0),(64,.lab lv 0)],e0:={ val:=.eD [],wr:=[(61,.own (wc [dq 9223372036854775808 u3 u2]) 142),(63,.own (wc [u0,u1,u2%9223372036854775808,0,0,0,0,0]) 142),(62,.own [.raw (.pointer none)] 236),(64,.row 1 Az 142)] },conds:=[U u0,U u1,U u2,0<=u3,u3<4] }
     | _,_=>none
   | _,_,_,_=>none
 | _=>none
theorem aRf (Γ:Env) (hg:Γ.aU=aB):aH Tryz.prog Γ 203 (aK aB 100 FF):=by
 refine aT hg fun vs T c hd hc=>?_
 unfold FF at hd
 split at hd
 case h_2=>cases hd
 split at hd
 case h_2=>cases hd
 split at hd
 case h_2=>cases hd
 cases hd
 exact (((YI _ (hc _ (by simp)) (hc _ (by simp)) (hc _ (by simp)) (hc _ (by simp)) (hc _ (by simp))).bE 62 _ rfl (by decide)).bE 64 _ rfl (by decide)).words (by rw [hg];rfl) (fun _=>rfl) (fun _ _ h=>h) (fun _=>rfl) rfl rfl
noncomputable def QU (h:List Bool):Nat->Option Sum:=Ax Vq 137 h
theorem XO (h:List Bool):∀ f S,QU h f=some S->∀ Γ:Env,Γ.aU=aB->aH Tryz.prog Γ f S:=lQ pI 137 h
def mQ:List SV:=[.ptr 61 true 0,.aI 62 true 0 16 16]
def eT:List SV:=List.replicate 16 (.int true .u8 0)
def PJ (X:SV) (xs:List SV) (out:List SV):List (Nat × SB):=[(61,.eY [.bool true false,X]),(62,.own out 105),(63,.eY xs)]
noncomputable def Ta (h:List Bool) (X:SV) (xs:List SV):Option bR:=aR (env (QU h) 22) Tryz.f105 true [] 400 mQ (fun l=>look l (PJ X xs eT)) 100 100
namespace M
def sr:Nat->Int->Int
 | 0,a=>a
 | j+1,a=>cE .u64 (sr j a) 8
def Es (j:Nat) (a:Int):Int:=IntKind.u8.wrap (sr j a)
end M
namespace M
def ZS (a0 a1:Int):List Int:=[Es 7 a1,Es 6 a1,Es 5 a1,Es 4 a1,Es 3 a1,Es 2 a1,Es 1 a1,Es 0 a1,Es 7 a0,Es 6 a0,Es 5 a0,Es 4 a0,Es 3 a0,Es 2 a0,Es 1 a0,Es 0 a0]
def fbZ (l:List Int) (k:Nat):List Prop:=(List.range k).reverse.map fun j=>(l.getD j 0==0)=true
def fbO (l:List Int) (k:Nat):List Prop:=((l.getD k 0==0)=false)::fbZ l k
def fbP (k n:Nat):List Bool:=match Nat.blt k n with
 | true=>List.replicate k true++[false]
 | false=>List.replicate n true
def fbQ (l:List Int) (k n:Nat):List Prop:=match Nat.blt k n with
 | true=>fbO l k
 | false=>fbZ l n
theorem HD (l:List Int) (n:Nat):∃ k,k<=n/\∀ q∈fbQ l k n,q:=by
 have zer:∀ m,(∀ j,j<m->(l.getD j 0==0)=true)->∀ q∈fbZ l m,q:=fun m h q hq=>by
  obtain ⟨j,hj,rfl⟩:=List.mem_map.1 hq
  exact h j (by simpa using hj)
 have key:∀ m,m<=n->(∃ k,k<=n/\∀ q∈fbQ l k n,q)\/∀ j,j<m->(l.getD j 0==0)=true:=by
  intro m
  induction m with
  | zero=>exact fun _=>.inr fun j h=>by omega
  | succ m ih=>
    intro hm
    rcases ih (by omega) with h | h
    .exact .inl h
    .cases hb:(l.getD m 0==0) with
     | false=>
       refine .inl ⟨m,by omega,?_⟩
       unfold fbQ
       rw [show Nat.blt m n=true by rw [Nat.blt_eq];omega]
       intro q hq
       rcases List.mem_cons.1 hq with rfl | hq
       .exact hb
       .exact zer m h q hq
     | true=>exact .inr fun j hj=>if e:j=m then by rw [e];exact hb else h j (by omega)
 rcases key n (Nat.le_refl _) with h | h
 .exact h
 .refine ⟨n,Nat.le_refl _,?_⟩
  unfold fbQ
  rw [show Nat.blt n n=false by cases hb:Nat.blt n n with
   | false=>rfl
   | true=>rw [Nat.blt_eq] at hb;omega]
  exact zer n h
end M
theorem XC (c:Nat) (xs:List SV) :
 Ta [] (.aI 63 true 0 0 c) xs =
 some {val:=.aI 62 true 0 16 16,wr:=[(62,.own eT 105)]}:=by kernel_rfl
theorem aZg (xs:List SV) :
 Ta [] (.raw (.slice none 0 0)) xs =
 some {val:=.aI 62 true 0 16 16,wr:=[(62,.own eT 105)]}:=by kernel_rfl
def fbW (n:Nat) (l:List Int):List SV:=eT.take (16-n)++bc (l.drop (16-n))
theorem aZi (c:Nat) (a0:Int) (xs:List SV) (k:Nat) (hk:k<=8):Ta (M.fbP k 8) (.aI 63 true 0 1 c) (ww a0 xs)=some { bV:=M.fbQ ((M.ZS a0 0).drop 8) k 8,val:=.aI 62 true 0 16 16,wr:=[(62,.own (fbW 8 (M.ZS a0 0)) 105)] }:=by
 rcases (by omega:k=0\/k=1\/k=2\/k=3\/k=4\/k=5\/k=6\/k=7\/k=8) with rfl | rfl | rfl | rfl | rfl | rfl | rfl | rfl | rfl <;> kernel_rfl
theorem aZh (c:Nat) (a0 a1:Int) (xs:List SV) (k:Nat) (hk:k<=16):Ta (M.fbP k 16) (.aI 63 true 0 2 c) (ww a0 (ww a1 xs))=some { bV:=M.fbQ (M.ZS a0 a1) k 16,val:=.aI 62 true 0 16 16,wr:=[(62,.own (fbW 16 (M.ZS a0 a1)) 105)] }:=by
 rcases (by omega:k=0\/k=1\/k=2\/k=3\/k=4\/k=5\/k=6\/k=7\/k=8\/k=9\/k=10\/k=11\/k=12\/k=13\/k=14\/k=15\/k=16) with rfl | rfl | rfl | rfl | rfl | rfl | rfl | rfl | rfl | rfl | rfl | rfl | rfl | rfl | rfl | rfl | rfl <;> kernel_rfl
namespace M
def nb (n:Int) (j:Nat):Int:=n/256^j%256
theorem aAd (a:Int):∀ j:Nat,sr j a=a/256^j
 | 0=>by simp [sr]
 | j+1=>by
   show Int.fdiv (sr j a) 256=_
   rw [Int.fdiv_eq_ediv_of_nonneg _ (by decide),aAd a j,Int.pow_succ]
   exact Int.ediv_ediv_of_nonneg (Int.le_of_lt (Int.pow_pos (by decide)))
theorem aBy (j:Nat) (a:Int):Es j a=a/256^j%256:=by
 unfold Es
 rw [IntKind.wrap_u8,aAd]
theorem aOw (a0 a1:Int) (j:Nat) (hj:j<8):nb (a0+18446744073709551616*a1) j=Es j a0:=by
 rw [aBy]
 unfold nb
 rcases (by omega:j=0\/j=1\/j=2\/j=3\/j=4\/j=5\/j=6\/j=7) with rfl | rfl | rfl | rfl | rfl | rfl | rfl | rfl <;> omega
theorem aOx {a0:Int} (h0:U a0) (a1:Int) (j:Nat) (hj:j<8):nb (a0+18446744073709551616*a1) (j+8)=Es j a1:=by
 have:=h0.1
 have:=h0.2
 rw [aBy]
 unfold nb
 rcases (by omega:j=0\/j=1\/j=2\/j=3\/j=4\/j=5\/j=6\/j=7) with rfl | rfl | rfl | rfl | rfl | rfl | rfl | rfl <;> omega
def nbs (n:Int):List Int:=[nb n 15,nb n 14,nb n 13,nb n 12,nb n 11,nb n 10,nb n 9,nb n 8,nb n 7,nb n 6,nb n 5,nb n 4,nb n 3,nb n 2,nb n 1,nb n 0]
theorem GU {a0:Int} (h0:U a0) (a1:Int):nbs (a0+18446744073709551616*a1)=ZS a0 a1:=by
 have h:=aOx h0 a1
 have l:=aOw a0 a1
 simp only [nbs,ZS,List.cons.injEq,and_true]
 exact ⟨h 7 (by decide),h 6 (by decide),h 5 (by decide),h 4 (by decide),h 3 (by decide),h 2 (by decide),h 1 (by decide),h 0 (by decide),l 7 (by decide),l 6 (by decide),l 5 (by decide),l 4 (by decide),l 3 (by decide),l 2 (by decide),l 1 (by decide),l 0 (by decide)⟩
end M
def ZN (n:Int):bR:={ val:=.aI 62 true 0 16 16,wr:=[(62,.own (bc (M.nbs n)) 105)] }
theorem QS (h:List Bool):aH Tryz.prog (env (QU h) 22) 105 (aR (env (QU h) 22) Tryz.f105 true [] 400):=aY (bH _ 22) (bJ _ (XO h) 22) mix Tryz.func105 (by kernel_rfl) true [] 400
theorem aLo:M.nbs 0=List.replicate 16 0:=by decide
theorem JK (xs:List SV):aD Tryz.prog Γv 105 mQ (fun l=>look l (PJ (.raw (.slice none 0 0)) xs eT)) 100 100 (ZN 0):=
 ((QS []).call (aZg xs) (by simp)).re rfl (fun _=>rfl) trivial ⟨rfl,⟨rfl,fun _=>by rw [aLo];rfl⟩,trivial⟩
theorem JN (c:Nat) (xs:List SV):aD Tryz.prog Γv 105 mQ (fun l=>look l (PJ (.aI 63 true 0 0 c) xs eT)) 100 100 (ZN 0):=
 ((QS []).call (XC c xs) (by simp)).re rfl (fun _=>rfl) trivial ⟨rfl,⟨rfl,fun _=>by rw [aLo];rfl⟩,trivial⟩
open M in
theorem JM (c:Nat) {a0:Int} (h0:U a0) (xs:List SV):aD Tryz.prog Γv 105 mQ (fun l=>look l (PJ (.aI 63 true 0 1 c) (ww a0 xs) eT)) 100 100 (ZN a0):=by
 obtain ⟨k,hk,ho⟩:=HD ((ZS a0 0).drop 8) 8
 have e:=GU h0 0
 rw [Int.mul_zero,Int.add_zero] at e
 exact ((QS _).call (aZi c a0 xs k hk) ho).re rfl (fun _=>rfl) trivial ⟨rfl,⟨rfl,fun V=>by rw [e];rfl⟩,trivial⟩
open M in
theorem JL (c:Nat) {a0 a1:Int} (h0:U a0) (_:U a1) (xs:List SV):aD Tryz.prog Γv 105 mQ (fun l=>look l (PJ (.aI 63 true 0 2 c) (ww a0 (ww a1 xs)) eT)) 100 100 (ZN (a0+18446744073709551616*a1)):=by
 obtain ⟨k,hk,ho⟩:=HD (ZS a0 a1) 16
 have e:=GU h0 a1
 exact ((QS _).call (aZh c a0 a1 xs k hk) ho).re rfl (fun _=>rfl) trivial ⟨rfl,⟨rfl,fun V=>by rw [e];rfl⟩,trivial⟩
def EN (vs:List SV) (T:bA):Option Canon:=match vs with
 | [.ptr l1 true 0,.aI lo true 0 16 16]=>match T l1,T lo with
   | some (.own [.bool _ _,X] 122),some (.own _ 105)=>match X with
     | .raw (.slice none 0 0)=>some { eR:=mQ,T0:=PJ (.raw (.slice none 0 0)) [.bool true false,.raw (.slice none 0 0)] eT,vl:=[(61,.lab l1 0),(62,.lab lo 0),(63,.lab l1 0)],e0:=ZN 0 }
     | .aI lx true 0 k c=>match (T lx).bind EE,k with
       | some (.u64,xs),0=>some { eR:=mQ,T0:=PJ (.aI 63 true 0 0 c) (wc xs) eT,vl:=[(61,.lab l1 0),(62,.lab lo 0),(63,.lab lx 0)],e0:=ZN 0 }
       | some (.u64,a0::xs),1=>some { eR:=mQ,T0:=PJ (.aI 63 true 0 1 c) (ww a0 (wc xs)) eT,vl:=[(61,.lab l1 0),(62,.lab lo 0),(63,.lab lx 0)],e0:=ZN a0,conds:=[M.U a0] }
       | some (.u64,a0::a1::xs),2=>some { eR:=mQ,T0:=PJ (.aI 63 true 0 2 c) (ww a0 (ww a1 (wc xs))) eT,vl:=[(61,.lab l1 0),(62,.lab lo 0),(63,.lab lx 0)],e0:=ZN (a0+18446744073709551616*a1),conds:=[M.U a0,M.U a1] }
       | _,_=>none
     | _=>none
   | _,_=>none
 | _=>none
theorem aRb (Γ:Env) (hg:Γ.aU=aB):aH Tryz.prog Γ 105 (aK aB 100 EN):=by
 refine aT hg fun vs T c hd hc=>?_
 unfold EN at hd
 split at hd
 case h_2=>cases hd
 split at hd
 case h_2=>cases hd
 split at hd
 case h_3=>cases hd
 .cases hd
  exact (JK [.bool true false,.raw (.slice none 0 0)]).words (by rw [hg];rfl) (fun _=>rfl) (fun _ _ h=>h) (fun _=>rfl) rfl rfl
 .split at hd
  case h_4=>cases hd
  .cases hd
   exact (JN _ _).words (by rw [hg];rfl) (fun _=>rfl) (fun _ _ h=>h) (fun _=>rfl) rfl rfl
  .cases hd
   exact (JM _ (hc _ (by simp)) _).words (by rw [hg];rfl) (fun _=>rfl) (fun _ _ h=>h) (fun _=>rfl) rfl rfl
  .cases hd
   exact (JL _ (hc _ (by simp)) (hc _ (by simp)) _).words (by rw [hg];rfl) (fun _=>rfl) (fun _ _ h=>h) (fun _=>rfl) rfl rfl
noncomputable def Tb:Nat->Option Sum:=eE (eE Vq 203 (aK aB 100 FF)) 105 (aK aB 100 EN)
theorem Cm:∀ f S,Tb f=some S->∀ Γ:Env,Γ.aU=aB->aH Tryz.prog Γ f S:=bI (bI pI 203 _ aRf) 105 _ aRb
noncomputable def orR (ex:Nat->Option Sum) (f0:Nat) (S0:Sum):Sum:=match Tryz.prog.funcs[f0]? with
 | some fn=>orS (aR (env ex 22) fn true [] 400) S0
 | none=>S0
theorem aGm {ex:Nat->Option Sum} (hex:∀ f S,ex f=some S->∀ Γ:Env,Γ.aU=aB->aH Tryz.prog Γ f S) (f0:Nat) (S0:Sum) (h0:∀ Γ:Env,Γ.aU=aB->aH Tryz.prog Γ f0 S0):∀ Γ:Env,Γ.aU=aB->aH Tryz.prog Γ f0 (orR ex f0 S0):=by
 intro Γ hg
 unfold orR
 split
 .rename_i fn tP
  exact GO ((aY (bH ex 22) (bJ ex hex 22) mix tP (names f0 fn tP) true [] 400).aU (by rw [hg];rfl)) (h0 Γ hg)
 .exact h0 Γ hg
noncomputable def aBs (ir:Nat):Nat->Option Sum:=eE (eE Tb 131 (orR Tb 131 (aK aB 100 (sZ 1 ir)))) 110 (orB Tb 110 (aK aB 100 Tg))
theorem MF (ir:Nat):∀ f S,aBs ir f=some S->∀ Γ:Env,Γ.aU=aB->aH Tryz.prog Γ f S:=bI (bI Cm 131 _ (aGm Cm 131 _ (Bv 1 ir))) 110 _ (GP Cm 110 _ aBu)
noncomputable def CA (ir:Nat):Nat->Option Sum:=Ax (aBs ir) 152 [false]
theorem XM (ir:Nat):∀ f S,CA ir f=some S->∀ Γ:Env,Γ.aU=aB->aH Tryz.prog Γ f S:=lQ (MF ir) 152 _
def Vk (X:SV) (xs:List SV):List (Nat × SB):=[(61,.own [.bool true false,X] 122),(62,.own eT 105),(63,.own xs 142),(17,.eY [.int true .i64 40]),(18,.eY [.int true .i64 40])]
def aCi:List (Nat × SB):=[(61,.own [.bool true false,.raw (.slice none 0 0)] 122),(62,.own eT 105),(17,.eY [.int true .i64 40]),(18,.eY [.int true .i64 40])]
noncomputable def aHf:Option bR:=aR (env (CA 0) 22) Tryz.f72 true [] 400 mQ (fun l=>look l aCi) 100 100
noncomputable def Bh (ir:Nat) (X:SV) (xs:List SV):Option bR:=aR (env (CA ir) 22) Tryz.f72 true [] 400 mQ (fun l=>look l (Vk X xs)) 100 100
namespace M
def lm (a b:Int):Int:=oG .u64 (dZ .u64 b 63) (cE .u64 a 1)
def Dj (n0 n1:Int):Int:=oG .u64 (cE .u64 (dZ .u64 n0 63) 63) (dZ .u64 (lm n0 n1) 1)
def Gl (n0 n1 n2:Int):Int:=oG .u64 (cE .u64 (lm n0 n1) 63) (dZ .u64 (lm n1 n2%9223372036854775808) 1)
def Ka (n1 n2:Int):Int:=oG .u64 (cE .u64 (lm n1 n2%9223372036854775808) 63) 0
def OU (n:Int):SB:=.own [.int false .u8 (nb n 0),.int false .u8 (nb n 1),.int false .u8 (nb n 2),.int false .u8 (nb n 3),.int false .u8 (nb n 4),.int false .u8 (nb n 5),.int false .u8 (nb n 6),.int false .u8 (nb n 7),.int false .u8 (nb n 8),.int false .u8 (nb n 9),.int false .u8 (nb n 10),.int false .u8 (nb n 11),.int false .u8 (nb n 12),.int false .u8 (nb n 13),.int false .u8 (nb n 14),.int false .u8 (nb n 15)] 105
end M
theorem aXi (c:Nat) (xs:List SV) :
 Bh 0 (.aI 63 true 0 0 c) xs =
 some {val:=.eD [],wr:=[(62,M.OU 0)]}:=by kernel_rfl
theorem aXh (c:Nat) (n0:Int) (xs:List SV) :
 Bh 0 (.aI 63 true 0 1 c) (ww n0 xs) =
 some {bV:=([M.U n0,[n0]=[n0]]:List Prop),val:=.eD [],wr:=[(62,M.OU n0)]}:=by kernel_rfl
theorem aXg (c:Nat) (n0 n1:Int) (xs:List SV) :
 Bh 0 (.aI 63 true 0 2 c) (ww n0 (ww n1 xs)) =
 some {bV:=([M.U n0,M.U n1,[n0,n1,0,0,0,0]=[n0,n1,0,0,0,0]]:List Prop),val:=.eD [],wr:=[(62,M.OU (n0+18446744073709551616*n1))]}:=by kernel_rfl
def Lw (cap:Nat):Prop:=∀ n0 n1 n2:Int,Bh 0 (.aI 63 true 0 3 cap) (wc (n0::n1::n2::List.replicate (cap-3) 0))=some { bV:=([[M.Dj n0 n1,M.Gl n0 n1 n2,M.Ka n1 n2,0,0,0,0,0]=[M.Dj n0 n1,M.Gl n0 n1 n2,M.Ka n1 n2,0,0,0,0,0],M.nl [M.Dj n0 n1,M.Gl n0 n1 n2,M.Ka n1 n2,0]=0,[M.Dj n0 n1,M.Gl n0 n1 n2,M.Ka n1 n2,0,0,0,0,0]=[M.Dj n0 n1,M.Gl n0 n1 n2,M.Ka n1 n2,0,0,0,0,0],M.nl [M.dq 9223372036854775808 (cE .u64 n2 1) (M.lm n1 n2)]=1,[M.dq 9223372036854775808 (cE .u64 n2 1) (M.lm n1 n2)]=[M.dq 9223372036854775808 (cE .u64 n2 1) (M.lm n1 n2)],M.U (dZ .u64 n0 63),M.U (M.lm n0 n1),M.U (M.lm n1 n2),0<=cE .u64 n2 1,cE .u64 n2 1<4,3=3,([0]:List Int)=[0],[dZ .u64 n0 63,M.lm n0 n1,M.lm n1 n2,cE .u64 n2 1,0,0,0,0]=[dZ .u64 n0 63,M.lm n0 n1,M.lm n1 n2,cE .u64 n2 1,0,0,0,0],decide (M.cmp (M.n3 n0 n1 n2) 340282366920938463463374607431768211456<0)=false,M.U n0,M.U n1,M.U n2,M.U 0,M.U 0,M.U 1,(n0::n1::n2::List.replicate (cap-3) 0)=(n0::n1::n2::List.replicate (cap-3) 0),([0,0,1,0,0,0,0,0]:List Int)=[0,0,1,0,0,0,0,0]]:List Prop),val:=.eD [],wr:=[(62,M.OU 0)] }
theorem VM:Lw 6:=fun n0 n1 n2=>by kernel_rfl
theorem VL:Lw 7:=fun n0 n1 n2=>by kernel_rfl
theorem VK:Lw 8:=fun n0 n1 n2=>by kernel_rfl
theorem VJ:Lw 9:=fun n0 n1 n2=>by kernel_rfl
def Lv (cap:Nat):Prop:=∀ n0 n1 n2:Int,Bh 1 (.aI 63 true 0 3 cap) (wc (n0::n1::n2::List.replicate (cap-3) 0))=some { bV:=([M.U (M.Dj n0 n1),[M.Dj n0 n1,M.Gl n0 n1 n2,M.Ka n1 n2,0,0,0,0,0]=[M.Dj n0 n1,M.Gl n0 n1 n2,M.Ka n1 n2,0,0,0,0,0],M.nl [M.Dj n0 n1,M.Gl n0 n1 n2,M.Ka n1 n2,0]=1,[M.Dj n0 n1,M.Gl n0 n1 n2,M.Ka n1 n2,0,0,0,0,0]=[M.Dj n0 n1,M.Gl n0 n1 n2,M.Ka n1 n2,0,0,0,0,0],M.nl [M.dq 9223372036854775808 (cE .u64 n2 1) (M.lm n1 n2)]=1,[M.dq 9223372036854775808 (cE .u64 n2 1) (M.lm n1 n2)]=[M.dq 9223372036854775808 (cE .u64 n2 1) (M.lm n1 n2)],M.U (dZ .u64 n0 63),M.U (M.lm n0 n1),M.U (M.lm n1 n2),0<=cE .u64 n2 1,cE .u64 n2 1<4,3=3,([0]:List Int)=[0],[dZ .u64 n0 63,M.lm n0 n1,M.lm n1 n2,cE .u64 n2 1,0,0,0,0]=[dZ .u64 n0 63,M.lm n0 n1,M.lm n1 n2,cE .u64 n2 1,0,0,0,0],decide (M.cmp (M.n3 n0 n1 n2) 340282366920938463463374607431768211456<0)=false,M.U n0,M.U n1,M.U n2,M.U 0,M.U 0,M.U 1,(n0::n1::n2::List.replicate (cap-3) 0)=(n0::n1::n2::List.replicate (cap-3) 0),([0,0,1,0,0,0,0,0]:List Int)=[0,0,1,0,0,0,0,0]]:List Prop),val:=.eD [],wr:=[(62,M.OU (M.Dj n0 n1))] }
theorem VI:Lv 6:=fun n0 n1 n2=>by kernel_rfl
theorem VH:Lv 7:=fun n0 n1 n2=>by kernel_rfl
theorem VG:Lv 8:=fun n0 n1 n2=>by kernel_rfl
theorem VF:Lv 9:=fun n0 n1 n2=>by kernel_rfl
def Lu (cap:Nat):Prop:=∀ n0 n1 n2:Int,Bh 2 (.aI 63 true 0 3 cap) (wc (n0::n1::n2::List.replicate (cap-3) 0))=some { bV:=([M.U (M.Dj n0 n1),M.U (M.Gl n0 n1 n2),[M.Dj n0 n1,M.Gl n0 n1 n2,M.Ka n1 n2,0,0,0,0,0]=[M.Dj n0 n1,M.Gl n0 n1 n2,M.Ka n1 n2,0,0,0,0,0],M.nl [M.Dj n0 n1,M.Gl n0 n1 n2,M.Ka n1 n2,0]=2,[M.Dj n0 n1,M.Gl n0 n1 n2,M.Ka n1 n2,0,0,0,0,0]=[M.Dj n0 n1,M.Gl n0 n1 n2,M.Ka n1 n2,0,0,0,0,0],M.nl [M.dq 9223372036854775808 (cE .u64 n2 1) (M.lm n1 n2)]=1,[M.dq 9223372036854775808 (cE .u64 n2 1) (M.lm n1 n2)]=[M.dq 9223372036854775808 (cE .u64 n2 1) (M.lm n1 n2)],M.U (dZ .u64 n0 63),M.U (M.lm n0 n1),M.U (M.lm n1 n2),0<=cE .u64 n2 1,cE .u64 n2 1<4,3=3,([0]:List Int)=[0],[dZ .u64 n0 63,M.lm n0 n1,M.lm n1 n2,cE .u64 n2 1,0,0,0,0]=[dZ .u64 n0 63,M.lm n0 n1,M.lm n1 n2,cE .u64 n2 1,0,0,0,0],decide (M.cmp (M.n3 n0 n1 n2) 340282366920938463463374607431768211456<0)=false,M.U n0,M.U n1,M.U n2,M.U 0,M.U 0,M.U 1,(n0::n1::n2::List.replicate (cap-3) 0)=(n0::n1::n2::List.replicate (cap-3) 0),([0,0,1,0,0,0,0,0]:List Int)=[0,0,1,0,0,0,0,0]]:List Prop),val:=.eD [],wr:=[(62,M.OU (M.Dj n0 n1+18446744073709551616*M.Gl n0 n1 n2))] }
theorem VE:Lu 6:=fun n0 n1 n2=>by kernel_rfl
theorem VD:Lu 7:=fun n0 n1 n2=>by kernel_rfl
theorem VC:Lu 8:=fun n0 n1 n2=>by kernel_rfl
theorem VB:Lu 9:=fun n0 n1 n2=>by kernel_rfl
theorem aXf (_u:Nat) :
 aHf =
 some {val:=.eD [],wr:=[(62,M.OU 0)]}:=by kernel_rfl
namespace M
theorem CQ (a:Int):dZ .u64 a 63=ul (a*9223372036854775808):=by unfold dZ;rw [bP];rfl
theorem aKu (a:Int):dZ .u64 a 1=ul (a*2):=by unfold dZ;rw [bP];rfl
theorem CO (a:Int):cE .u64 a 63=a/9223372036854775808:=by
 show Int.fdiv a 9223372036854775808=_
 rw [Int.fdiv_eq_ediv_of_nonneg _ (by decide)]
theorem PZ (a:Int):cE .u64 a 1=a/2:=by
 show Int.fdiv a 2=_
 rw [Int.fdiv_eq_ediv_of_nonneg _ (by decide)]
theorem aWe (k y:Int) (hk:0<=k) (hk4:k<2) (fC:0<=y) (hy:y<9223372036854775808):oG .u64 (k*9223372036854775808) y=k*9223372036854775808+y:=by
 obtain ⟨k,rfl⟩:=Int.eq_ofNat_of_zero_le hk
 obtain ⟨y,rfl⟩:=Int.eq_ofNat_of_zero_le fC
 have e:(k:Int)*9223372036854775808=((k*2^63:Nat):Int):=by rw [Int.natCast_mul];rfl
 have OA:(2:Nat)^63=9223372036854775808:=rfl
 rw [e,AG (by omega) (by omega)]
 omega
theorem aLl (k y:Int) (hk:0<=k) (hk4:k<9223372036854775808) (fC:0<=y) (hy:y<2):oG .u64 y (k*2)=k*2+y:=by
 obtain ⟨k,rfl⟩:=Int.eq_ofNat_of_zero_le hk
 obtain ⟨y,rfl⟩:=Int.eq_ofNat_of_zero_le fC
 have e:(k:Int)*2=((k*2^1:Nat):Int):=by rw [Int.natCast_mul];rfl
 have OA:(2:Nat)^1=2:=rfl
 rw [e,AH,AG (by omega) (by omega)]
 omega
theorem Bg {a b:Int} (ha:U a) (hb:U b):lm a b=b%2*9223372036854775808+a/2:=by
 have:=ha.1;have:=ha.2;have:=hb.1;have:=hb.2
 unfold lm
 rw [CQ,PZ]
 have e:ul (b*9223372036854775808)=b%2*9223372036854775808:=by unfold ul;omega
 rw [e,aWe _ _ (by omega) (by omega) (by omega) (by omega)]
theorem aPl {a b c:Int} (ha:U a) (hb:U b) (wA:0<=c) (hc:c<8):Dj a b=a/\Gl a b c=b/\Ka b c=0:=by
 have:=ha.1;have:=ha.2;have:=hb.1;have:=hb.2
 have hcU:U c:=by unfold U;omega
 refine ⟨?_,?_,?_⟩
 .unfold Dj
  rw [Bg ha hb,CQ,CO,aKu]
  have e1:ul (a*9223372036854775808)/9223372036854775808=a%2:=by unfold ul;omega
  have e2:ul ((b%2*9223372036854775808+a/2)*2)=a/2*2:=by unfold ul;omega
  rw [e1,e2,aLl _ _ (by omega) (by omega) (by omega) (by omega)]
  omega
 .unfold Gl
  rw [Bg ha hb,Bg hb hcU,CO,aKu]
  have e1:(b%2*9223372036854775808+a/2)/9223372036854775808=b%2:=by omega
  have e2:ul ((c%2*9223372036854775808+b/2)%9223372036854775808*2)=b/2*2:=by unfold ul;omega
  rw [e1,e2,aLl _ _ (by omega) (by omega) (by omega) (by omega)]
  omega
 .unfold Ka
  rw [Bg hb hcU,CO]
  have e1:(c%2*9223372036854775808+b/2)%9223372036854775808/9223372036854775808=0:=by omega
  rw [e1]
  decide
end M
theorem aLp (ir:Nat):aH Tryz.prog (env (CA ir) 22) 72 (aR (env (CA ir) 22) Tryz.f72 true [] 400):=aY (bH _ 22) (bJ _ (XM ir) 22) mix Tryz.func72 (by kernel_rfl) true [] 400
def Zq (n:Int) (ws:List (Nat × SB)):bR:={ val:=.eD [],wr:=(62,M.OU n)::ws }
def NM (X:SV) (xs:List SV):List (Nat × SB):=[(61,.own [.bool true false,X] 122),(63,.own xs 142)]
theorem IL:aD Tryz.prog Γv 72 mQ (fun l=>look l aCi) 100 100 (Zq 0 [(61,.own [.bool true false,.raw (.slice none 0 0)] 122)]):=
 (((aLp 0).call (aXf 0) (by simp)).bE 61 _ rfl (by decide)).re rfl (fun _=>rfl) trivial ⟨rfl,⟨rfl,fun _=>rfl⟩,rfl,⟨rfl,fun _=>rfl⟩,trivial⟩
theorem aHg {n ca:Nat} {b:Bool} {xs:List SV} {N:Int} (h:aD Tryz.prog Γv 72 mQ (fun l=>look l (Vk (.aI 63 true 0 n ca) xs)) 100 100 (Zq N (NM (.aI 63 true 0 n ca) xs))):aD Tryz.prog Γv 72 mQ (fun l=>look l (Vk (.aI 63 b 0 n ca) xs)) 100 100 (Zq N (NM (.aI 63 b 0 n ca) xs)):=
 (aD.reL (L:=Vk (.aI 63 true 0 n ca) xs) (L':=Vk (.aI 63 b 0 n ca) xs) h ⟨rfl,⟨rfl,fun _=>rfl⟩,rfl,bZ _,rfl,bZ _,rfl,bZ _,rfl,bZ _,trivial⟩ (fun _=>rfl)).re rfl (fun _=>rfl) trivial ⟨rfl,bZ _,rfl,⟨rfl,fun _=>rfl⟩,rfl,bZ _,trivial⟩
theorem Fc {ir n ca:Nat} {b:Bool} {xs:List SV} {N N':Int} {ob:List Prop} (h:Bh ir (.aI 63 true 0 n ca) xs=some { bV:=ob,val:=.eD [],wr:=[(62,M.OU N')] }) (ho:∀ q∈ob,q) (e:N'=N):aD Tryz.prog Γv 72 mQ (fun l=>look l (Vk (.aI 63 b 0 n ca) xs)) 100 100 (Zq N (NM (.aI 63 b 0 n ca) xs)):=by
 subst e
 exact aHg (((((aLp ir).call h ho).bE 61 _ rfl (by decide)).bE 63 _ rfl (by decide)).re rfl (fun _=>rfl) trivial ⟨rfl,⟨rfl,fun _=>rfl⟩,rfl,⟨rfl,fun _=>rfl⟩,rfl,⟨rfl,fun _=>rfl⟩,trivial⟩)
open M in
theorem IP {b:Bool} (ca:Nat) (xs:List SV):aD Tryz.prog Γv 72 mQ (fun l=>look l (Vk (.aI 63 b 0 0 ca) xs)) 100 100 (Zq 0 (NM (.aI 63 b 0 0 ca) xs)):=
 Fc (aXi ca xs) (by simp) rfl
open M in
theorem Mt {b:Bool} (ca:Nat) {n0:Int} (h0:U n0) (xs:List SV):aD Tryz.prog Γv 72 mQ (fun l=>look l (Vk (.aI 63 b 0 1 ca) (ww n0 xs))) 100 100 (Zq n0 (NM (.aI 63 b 0 1 ca) (ww n0 xs))):=
 Fc (aXh ca n0 xs) (aA (by simp only [aO,h0,and_true])) rfl
open M in
theorem IN {b:Bool} (ca:Nat) {n0 n1:Int} (h0:U n0) (h1:U n1) (xs:List SV):aD Tryz.prog Γv 72 mQ (fun l=>look l (Vk (.aI 63 b 0 2 ca) (ww n0 (ww n1 xs)))) 100 100 (Zq (n0+18446744073709551616*n1) (NM (.aI 63 b 0 2 ca) (ww n0 (ww n1 xs)))):=
 Fc (aXg ca n0 n1 xs) (aA (by simp only [aO,h0,h1,and_true])) rfl
open M in
theorem IM {b:Bool} {ca:Nat} (jM:ca=6\/ca=7\/ca=8\/ca=9) {n0 n1 n2:Int} (h0:U n0) (h1:U n1) (hn0:n2≠0) (h20:0<=n2) (h2:n2<8) :
 aD Tryz.prog Γv 72 mQ (fun l=>look l (Vk (.aI 63 b 0 3 ca) (wc (n0::n1::n2::List.replicate (ca-3) 0)))) 100 100 (Zq (n0+18446744073709551616*n1) (NM (.aI 63 b 0 3 ca) (wc (n0::n1::n2::List.replicate (ca-3) 0)))):=by
 obtain ⟨e0,e1,e2⟩:=aPl h0 h1 h20 h2
 have hU2:U n2:=by unfold U;omega
 have:=h0.1;have:=h0.2;have:=h1.1;have:=h1.2
 have g0:Lw ca:=by
  rcases jM with rfl | rfl | rfl | rfl
  .exact VM
  .exact VL
  .exact VK
  .exact VJ
 have g1:Lv ca:=by
  rcases jM with rfl | rfl | rfl | rfl
  .exact VI
  .exact VH
  .exact VG
  .exact VF
 have g2:Lu ca:=by
  rcases jM with rfl | rfl | rfl | rfl
  .exact VE
  .exact VD
  .exact VC
  .exact VB
 have u0:U (dZ .u64 n0 63):=by rw [CQ];unfold U ul;omega
 have u1:U (lm n0 n1):=by rw [Bg h0 h1];unfold U;omega
 have u2:U (lm n1 n2):=by rw [Bg h1 hU2];unfold U;omega
 have s0:0<=cE .u64 n2 1:=by rw [PZ];omega
 have s1:cE .u64 n2 1<4:=by rw [PZ];omega
 have c0:decide (cmp (n3 n0 n1 n2) 340282366920938463463374607431768211456<0)=false:=by
  refine decide_eq_false ?_
  unfold cmp n3
  rw [if_neg (by omega)]
  split <;> omega
 have d0:nl [dq 9223372036854775808 (cE .u64 n2 1) (lm n1 n2)]=1:=by
  have:dq 9223372036854775808 (cE .u64 n2 1) (lm n1 n2)≠0:=by
   rw [PZ,Bg h1 hU2]
   unfold dq
   omega
  simp only [nl,if_neg this]
 have z0:U 0:=by unfold U;omega
 have z1:U 1:=by unfold U;omega
 rcases OT n0 n1 with ⟨h,q0,q1⟩ | ⟨h,q0,q1⟩ | ⟨h,q1⟩
 .have hn:nl [n0,n1,0,0]=0:=by rw [q0,q1];decide
  refine Fc (g0 n0 n1 n2) (aA ?_) (by rw [q0,q1];decide)
  rw [e0,e1,e2]
  simp only [aO,h0,h1,hU2,u0,u1,u2,s0,s1,c0,d0,z0,z1,hn,and_true]
 .have hn:nl [n0,n1,0,0]=1:=by rw [q1];simp only [nl,if_true,if_neg q0]
  refine Fc (g1 n0 n1 n2) (aA ?_) (by rw [e0,q1];omega)
  rw [e0,e1,e2]
  simp only [aO,h0,h1,hU2,u0,u1,u2,s0,s1,c0,d0,z0,z1,hn,and_true]
 .have hn:nl [n0,n1,0,0]=2:=by simp only [nl,if_true,if_neg q1]
  refine Fc (g2 n0 n1 n2) (aA ?_) (by rw [e0,e1])
  rw [e0,e1,e2]
  simp only [aO,h0,h1,hU2,u0,u1,u2,s0,s1,c0,d0,z0,z1,hn,and_true]
noncomputable def CC (h h2:List Bool):Nat->Option Sum:=Ax (Ax Vq 131 h) 139 h2
theorem XP (h h2:List Bool):∀ f S,CC h h2 f=some S->∀ Γ:Env,Γ.aU=aB->aH Tryz.prog Γ f S:=lQ (lQ pI 131 h) 139 h2
def yX:List SV:=[.ptr 61 true 0,.ptr 61 true 0,.ptr 63 true 0]
def PK (X Y:SV) (xs ys:List SV):List (Nat × SB):=[(61,.own [.bool true false,X] 122),(63,.own [.bool true false,Y] 122),(64,.own xs 142),(65,.own ys 142),(17,.eY [.int true .i64 40]),(18,.eY [.int true .i64 40])]
def Pk (Y:SV) (ys:List SV):List (Nat × SB):=[(61,.own [.bool true false,.raw (.slice none 0 0)] 122),(63,.own [.bool true false,Y] 122),(65,.own ys 142),(17,.eY [.int true .i64 40]),(18,.eY [.int true .i64 40])]
noncomputable def Py (Y:SV) (ys:List SV):Option bR:=aR (env (CC [] []) 22) Tryz.f75 true [] 400 yX (fun l=>look l (Pk Y ys)) 100 100
noncomputable def jH (h h2:List Bool) (X Y:SV) (xs ys:List SV):Option bR:=aR (env (CC h h2) 22) Tryz.f75 true [] 400 yX (fun l=>look l (PK X Y xs ys)) 100 100
def uZ (cap:Nat):Prop:=∀ _z:Int,jH [] [] (.aI 64 true 0 0 cap) (.aI 65 true 0 0 6) (wc (0::0::0::List.replicate (cap-3) 0)) (wc [0,0,0,0,0,0])=some { val:=.ptr 61 true 0,wr:=[(61,.own [.bool true false,.aI 64 true 0 0 cap] 122)] }
theorem MD:uZ 6:=fun _z=>by kernel_rfl
theorem MC:uZ 7:=fun _z=>by kernel_rfl
theorem MB:uZ 8:=fun _z=>by kernel_rfl
theorem MA:uZ 9:=fun _z=>by kernel_rfl
theorem aIk {cap:Nat} (h:cap=6\/cap=7\/cap=8\/cap=9):uZ cap:=by
 rcases h with rfl | rfl | rfl | rfl
 .exact MD
 .exact MC
 .exact MB
 .exact MA
def uY (cap:Nat):Prop:=∀ y0:Int,jH [] [] (.aI 64 true 0 0 cap) (.aI 65 true 0 1 6) (wc (0::0::0::List.replicate (cap-3) 0)) (wc [y0,0,0,0,0,0])=some { val:=.ptr 61 true 0,wr:=[(61,.own [.bool true false,.aI 64 true 0 1 cap] 122),(64,.own (.int false .u64 y0 :: .int false .u64 0 :: .int false .u64 0 :: .int false .u64 0::wc (List.replicate (cap-4) 0)) 142)] }
theorem LZ:uY 6:=fun y0=>by kernel_rfl
theorem LY:uY 7:=fun y0=>by kernel_rfl
theorem LX:uY 8:=fun y0=>by kernel_rfl
theorem LW:uY 9:=fun y0=>by kernel_rfl
theorem aIj {cap:Nat} (h:cap=6\/cap=7\/cap=8\/cap=9):uY cap:=by
 rcases h with rfl | rfl | rfl | rfl
 .exact LZ
 .exact LY
 .exact LX
 .exact LW
def uX (cap:Nat):Prop:=∀ y0 y1:Int,jH [] [] (.aI 64 true 0 0 cap) (.aI 65 true 0 2 6) (wc (0::0::0::List.replicate (cap-3) 0)) (wc [y0,y1,0,0,0,0])=some { val:=.ptr 61 true 0,wr:=[(61,.own [.bool true false,.aI 64 true 0 2 cap] 122),(64,.own (.int false .u64 y0 :: .int false .u64 y1 :: .int false .u64 0 :: .int false .u64 0::wc (List.replicate (cap-4) 0)) 142)] }
theorem LV:uX 6:=fun y0 y1=>by kernel_rfl
theorem LU:uX 7:=fun y0 y1=>by kernel_rfl
theorem LS:uX 8:=fun y0 y1=>by kernel_rfl
theorem LR:uX 9:=fun y0 y1=>by kernel_rfl
theorem aIi {cap:Nat} (h:cap=6\/cap=7\/cap=8\/cap=9):uX cap:=by
 rcases h with rfl | rfl | rfl | rfl
 .exact LV
 .exact LU
 .exact LS
 .exact LR
def uW (cap:Nat):Prop:=∀ x0:Int,jH [] [] (.aI 64 true 0 1 cap) (.aI 65 true 0 0 6) (wc (x0::0::0::List.replicate (cap-3) 0)) (wc [0,0,0,0,0,0])=some { val:=.ptr 61 true 0,wr:=[(61,.own [.bool true false,.aI 64 true 0 1 cap] 122),(64,.own (.int false .u64 x0 :: .int false .u64 0 :: .int false .u64 0 :: .int false .u64 0::wc (List.replicate (cap-4) 0)) 142)] }
theorem LQ:uW 6:=fun x0=>by kernel_rfl
theorem LP:uW 7:=fun x0=>by kernel_rfl
theorem LO:uW 8:=fun x0=>by kernel_rfl
theorem LN:uW 9:=fun x0=>by kernel_rfl
theorem aIh {cap:Nat} (h:cap=6\/cap=7\/cap=8\/cap=9):uW cap:=by
 rcases h with rfl | rfl | rfl | rfl
 .exact LQ
 .exact LP
 .exact LO
 .exact LN
def uV (cap:Nat):Prop:=∀ x0 y0:Int,jH [true,false] [] (.aI 64 true 0 1 cap) (.aI 65 true 0 1 6) (wc (x0::0::0::List.replicate (cap-3) 0)) (wc [y0,0,0,0,0,0])=some { bV:=([(M.ul (x0+y0+0)==0)=false,(M.uh (x0+y0+0)==0)=true,M.U x0,M.U y0,M.K 0,x0=x0,y0=y0,(0:Int)=0]:List Prop),val:=.ptr 61 true 0,wr:=[(61,.own [.bool true false,.aI 64 true 0 1 cap] 122),(64,.own (.int false .u64 (M.ul (x0+y0+0)) :: .int false .u64 (M.uh (x0+y0+0)) :: .int false .u64 0 :: .int false .u64 0::wc (List.replicate (cap-4) 0)) 142)] }
theorem LM:uV 6:=fun x0 y0=>by kernel_rfl
theorem LL:uV 7:=fun x0 y0=>by kernel_rfl
theorem LK:uV 8:=fun x0 y0=>by kernel_rfl
theorem LJ:uV 9:=fun x0 y0=>by kernel_rfl
theorem aIg {cap:Nat} (h:cap=6\/cap=7\/cap=8\/cap=9):uV cap:=by
 rcases h with rfl | rfl | rfl | rfl
 .exact LM
 .exact LL
 .exact LK
 .exact LJ
def uU (cap:Nat):Prop:=∀ x0 y0:Int,jH [false] [] (.aI 64 true 0 1 cap) (.aI 65 true 0 1 6) (wc (x0::0::0::List.replicate (cap-3) 0)) (wc [y0,0,0,0,0,0])=some { bV:=([(M.uh (x0+y0+0)==0)=false,M.U x0,M.U y0,M.K 0,x0=x0,y0=y0,(0:Int)=0]:List Prop),val:=.ptr 61 true 0,wr:=[(61,.own [.bool true false,.aI 64 true 0 2 cap] 122),(64,.own (.int false .u64 (M.ul (x0+y0+0)) :: .int false .u64 (M.uh (x0+y0+0)) :: .int false .u64 0 :: .int false .u64 0::wc (List.replicate (cap-4) 0)) 142)] }
theorem LI:uU 6:=fun x0 y0=>by kernel_rfl
theorem LH:uU 7:=fun x0 y0=>by kernel_rfl
theorem LG:uU 8:=fun x0 y0=>by kernel_rfl
theorem LF:uU 9:=fun x0 y0=>by kernel_rfl
theorem aIf {cap:Nat} (h:cap=6\/cap=7\/cap=8\/cap=9):uU cap:=by
 rcases h with rfl | rfl | rfl | rfl
 .exact LI
 .exact LH
 .exact LG
 .exact LF
def uT (cap:Nat):Prop:=∀ x0 y0 y1:Int,jH [false] [true] (.aI 64 true 0 1 cap) (.aI 65 true 0 2 6) (wc (x0::0::0::List.replicate (cap-3) 0)) (wc [y0,y1,0,0,0,0])=some { bV:=([(M.ul (y1+M.uh (y0+x0+0)+0)==0)=false,(M.uh (y1+M.uh (y0+x0+0)+0)==0)=true,M.U y1,M.U (M.uh (y0+x0+0)),M.K 0,y1=y1,M.uh (y0+x0+0)=M.uh (y0+x0+0),(0:Int)=0,M.U y0,M.U x0,M.K 0,y0=y0,x0=x0,(0:Int)=0]:List Prop),val:=.ptr 61 true 0,wr:=[(61,.own [.bool true false,.aI 64 true 0 2 cap] 122),(64,.own (.int false .u64 (M.ul (y0+x0+0)) :: .int false .u64 (M.ul (y1+M.uh (y0+x0+0)+0)) :: .int true .u64 0 :: .int false .u64 0::wc (List.replicate (cap-4) 0)) 142)] }
theorem LD:uT 6:=fun x0 y0 y1=>by kernel_rfl
theorem LC:uT 7:=fun x0 y0 y1=>by kernel_rfl
theorem LB:uT 8:=fun x0 y0 y1=>by kernel_rfl
theorem LA:uT 9:=fun x0 y0 y1=>by kernel_rfl
theorem aIe {cap:Nat} (h:cap=6\/cap=7\/cap=8\/cap=9):uT cap:=by
 rcases h with rfl | rfl | rfl | rfl
 .exact LD
 .exact LC
 .exact LB
 .exact LA
def uS (cap:Nat):Prop:=∀ x0 y0 y1:Int,jH [] [false] (.aI 64 true 0 1 cap) (.aI 65 true 0 2 6) (wc (x0::0::0::List.replicate (cap-3) 0)) (wc [y0,y1,0,0,0,0])=some { bV:=([(M.uh (y1+M.uh (y0+x0+0)+0)==0)=false,M.U y1,M.U (M.uh (y0+x0+0)),M.K 0,y1=y1,M.uh (y0+x0+0)=M.uh (y0+x0+0),(0:Int)=0,M.U y0,M.U x0,M.K 0,y0=y0,x0=x0,(0:Int)=0]:List Prop),val:=.ptr 61 true 0,wr:=[(61,.own [.bool true false,.aI 64 true 0 3 cap] 122),(64,.own (.int false .u64 (M.ul (y0+x0+0)) :: .int false .u64 (M.ul (y1+M.uh (y0+x0+0)+0)) :: .int true .u64 1 :: .int false .u64 0::wc (List.replicate (cap-4) 0)) 142)] }
theorem KZ:uS 6:=fun x0 y0 y1=>by kernel_rfl
theorem KY:uS 7:=fun x0 y0 y1=>by kernel_rfl
theorem KX:uS 8:=fun x0 y0 y1=>by kernel_rfl
theorem KW:uS 9:=fun x0 y0 y1=>by kernel_rfl
theorem aId {cap:Nat} (h:cap=6\/cap=7\/cap=8\/cap=9):uS cap:=by
 rcases h with rfl | rfl | rfl | rfl
 .exact KZ
 .exact KY
 .exact KX
 .exact KW
def uR (cap:Nat):Prop:=∀ x0 x1:Int,jH [] [] (.aI 64 true 0 2 cap) (.aI 65 true 0 0 6) (wc (x0::x1::0::List.replicate (cap-3) 0)) (wc [0,0,0,0,0,0])=some { val:=.ptr 61 true 0,wr:=[(61,.own [.bool true false,.aI 64 true 0 2 cap] 122),(64,.own (.int false .u64 x0 :: .int false .u64 x1 :: .int false .u64 0 :: .int false .u64 0::wc (List.replicate (cap-4) 0)) 142)] }
theorem KV:uR 6:=fun x0 x1=>by kernel_rfl
theorem KU:uR 7:=fun x0 x1=>by kernel_rfl
theorem KT:uR 8:=fun x0 x1=>by kernel_rfl
theorem KS:uR 9:=fun x0 x1=>by kernel_rfl
theorem aIc {cap:Nat} (h:cap=6\/cap=7\/cap=8\/cap=9):uR cap:=by
 rcases h with rfl | rfl | rfl | rfl
 .exact KV
 .exact KU
 .exact KT
 .exact KS
def uQ (cap:Nat):Prop:=∀ x0 x1 y0:Int,jH [false] [true] (.aI 64 true 0 2 cap) (.aI 65 true 0 1 6) (wc (x0::x1::0::List.replicate (cap-3) 0)) (wc [y0,0,0,0,0,0])=some { bV:=([(M.ul (x1+M.uh (x0+y0+0)+0)==0)=false,(M.uh (x1+M.uh (x0+y0+0)+0)==0)=true,M.U x1,M.U (M.uh (x0+y0+0)),M.K 0,x1=x1,M.uh (x0+y0+0)=M.uh (x0+y0+0),(0:Int)=0,M.U x0,M.U y0,M.K 0,x0=x0,y0=y0,(0:Int)=0]:List Prop),val:=.ptr 61 true 0,wr:=[(61,.own [.bool true false,.aI 64 true 0 2 cap] 122),(64,.own (.int false .u64 (M.ul (x0+y0+0)) :: .int false .u64 (M.ul (x1+M.uh (x0+y0+0)+0)) :: .int true .u64 0 :: .int false .u64 0::wc (List.replicate (cap-4) 0)) 142)] }
theorem KR:uQ 6:=fun x0 x1 y0=>by kernel_rfl
theorem KP:uQ 7:=fun x0 x1 y0=>by kernel_rfl
theorem KO:uQ 8:=fun x0 x1 y0=>by kernel_rfl
theorem KN:uQ 9:=fun x0 x1 y0=>by kernel_rfl
theorem aIb {cap:Nat} (h:cap=6\/cap=7\/cap=8\/cap=9):uQ cap:=by
 rcases h with rfl | rfl | rfl | rfl
 .exact KR
 .exact KP
 .exact KO
 .exact KN
def uP (cap:Nat):Prop:=∀ x0 x1 y0:Int,jH [] [false] (.aI 64 true 0 2 cap) (.aI 65 true 0 1 6) (wc (x0::x1::0::List.replicate (cap-3) 0)) (wc [y0,0,0,0,0,0])=some { bV:=([(M.uh (x1+M.uh (x0+y0+0)+0)==0)=false,M.U x1,M.U (M.uh (x0+y0+0)),M.K 0,x1=x1,M.uh (x0+y0+0)=M.uh (x0+y0+0),(0:Int)=0,M.U x0,M.U y0,M.K 0,x0=x0,y0=y0,(0:Int)=0]:List Prop),val:=.ptr 61 true 0,wr:=[(61,.own [.bool true false,.aI 64 true 0 3 cap] 122),(64,.own (.int false .u64 (M.ul (x0+y0+0)) :: .int false .u64 (M.ul (x1+M.uh (x0+y0+0)+0)) :: .int true .u64 1 :: .int false .u64 0::wc (List.replicate (cap-4) 0)) 142)] }
theorem KM:uP 6:=fun x0 x1 y0=>by kernel_rfl
theorem KL:uP 7:=fun x0 x1 y0=>by kernel_rfl
theorem KK:uP 8:=fun x0 x1 y0=>by kernel_rfl
theorem KJ:uP 9:=fun x0 x1 y0=>by kernel_rfl
theorem aIa {cap:Nat} (h:cap=6\/cap=7\/cap=8\/cap=9):uP cap:=by
 rcases h with rfl | rfl | rfl | rfl
 .exact KM
 .exact KL
 .exact KK
 .exact KJ
def uO (cap:Nat):Prop:=∀ x0 x1 y0 y1:Int,jH [true,false] [] (.aI 64 true 0 2 cap) (.aI 65 true 0 2 6) (wc (x0::x1::0::List.replicate (cap-3) 0)) (wc [y0,y1,0,0,0,0])=some { bV:=([(M.ul (x1+y1+M.uh (x0+y0+0))==0)=false,(M.uh (x1+y1+M.uh (x0+y0+0))==0)=true,M.U x1,M.U y1,M.K (M.uh (x0+y0+0)),x1=x1,y1=y1,M.uh (x0+y0+0)=M.uh (x0+y0+0),M.U x0,M.U y0,M.K 0,x0=x0,y0=y0,(0:Int)=0]:List Prop),val:=.ptr 61 true 0,wr:=[(61,.own [.bool true false,.aI 64 true 0 2 cap] 122),(64,.own (.int false .u64 (M.ul (x0+y0+0)) :: .int false .u64 (M.ul (x1+y1+M.uh (x0+y0+0))) :: .int false .u64 (M.uh (x1+y1+M.uh (x0+y0+0))) :: .int false .u64 0::wc (List.replicate (cap-4) 0)) 142)] }
theorem KI:uO 6:=fun x0 x1 y0 y1=>by kernel_rfl
theorem KH:uO 7:=fun x0 x1 y0 y1=>by kernel_rfl
theorem KG:uO 8:=fun x0 x1 y0 y1=>by kernel_rfl
theorem KF:uO 9:=fun x0 x1 y0 y1=>by kernel_rfl
theorem aHz {cap:Nat} (h:cap=6\/cap=7\/cap=8\/cap=9):uO cap:=by
 rcases h with rfl | rfl | rfl | rfl
 .exact KI
 .exact KH
 .exact KG
 .exact KF
def uN (cap:Nat):Prop:=∀ x0 x1 y0 y1:Int,jH [false] [] (.aI 64 true 0 2 cap) (.aI 65 true 0 2 6) (wc (x0::x1::0::List.replicate (cap-3) 0)) (wc [y0,y1,0,0,0,0])=some { bV:=([(M.uh (x1+y1+M.uh (x0+y0+0))==0)=false,M.U x1,M.U y1,M.K (M.uh (x0+y0+0)),x1=x1,y1=y1,M.uh (x0+y0+0)=M.uh (x0+y0+0),M.U x0,M.U y0,M.K 0,x0=x0,y0=y0,(0:Int)=0]:List Prop),val:=.ptr 61 true 0,wr:=[(61,.own [.bool true false,.aI 64 true 0 3 cap] 122),(64,.own (.int false .u64 (M.ul (x0+y0+0)) :: .int false .u64 (M.ul (x1+y1+M.uh (x0+y0+0))) :: .int false .u64 (M.uh (x1+y1+M.uh (x0+y0+0))) :: .int false .u64 0::wc (List.replicate (cap-4) 0)) 142)] }
theorem KE:uN 6:=fun x0 x1 y0 y1=>by kernel_rfl
theorem KD:uN 7:=fun x0 x1 y0 y1=>by kernel_rfl
theorem KC:uN 8:=fun x0 x1 y0 y1=>by kernel_rfl
theorem KB:uN 9:=fun x0 x1 y0 y1=>by kernel_rfl
theorem aHy {cap:Nat} (h:cap=6\/cap=7\/cap=8\/cap=9):uN cap:=by
 rcases h with rfl | rfl | rfl | rfl
 .exact KE
 .exact KD
 .exact KC
 .exact KB
def uM (cap:Nat):Prop:=∀ x0 x1 x2:Int,jH [] [] (.aI 64 true 0 3 cap) (.aI 65 true 0 0 6) (wc (x0::x1::x2::List.replicate (cap-3) 0)) (wc [0,0,0,0,0,0])=some { val:=.ptr 61 true 0,wr:=[(61,.own [.bool true false,.aI 64 true 0 3 cap] 122),(64,.own (.int false .u64 x0 :: .int false .u64 x1 :: .int false .u64 x2 :: .int false .u64 0::wc (List.replicate (cap-4) 0)) 142)] }
theorem KA:uM 6:=fun x0 x1 x2=>by kernel_rfl
theorem JZ:uM 7:=fun x0 x1 x2=>by kernel_rfl
theorem JY:uM 8:=fun x0 x1 x2=>by kernel_rfl
theorem JX:uM 9:=fun x0 x1 x2=>by kernel_rfl
theorem aHx {cap:Nat} (h:cap=6\/cap=7\/cap=8\/cap=9):uM cap:=by
 rcases h with rfl | rfl | rfl | rfl
 .exact KA
 .exact JZ
 .exact JY
 .exact JX
def uL (cap:Nat):Prop:=∀ x0 x1 x2 y0:Int,jH [false] [true] (.aI 64 true 0 3 cap) (.aI 65 true 0 1 6) (wc (x0::x1::x2::List.replicate (cap-3) 0)) (wc [y0,0,0,0,0,0])=some { bV:=([(x2==0)=false,(M.uh (x1+M.uh (x0+y0+0)+0)==0)=true,M.U x1,M.U (M.uh (x0+y0+0)),M.K 0,x1=x1,M.uh (x0+y0+0)=M.uh (x0+y0+0),(0:Int)=0,M.U x0,M.U y0,M.K 0,x0=x0,y0=y0,(0:Int)=0]:List Prop),val:=.ptr 61 true 0,wr:=[(61,.own [.bool true false,.aI 64 true 0 3 cap] 122),(64,.own (.int false .u64 (M.ul (x0+y0+0)) :: .int false .u64 (M.ul (x1+M.uh (x0+y0+0)+0)) :: .int false .u64 x2 :: .int true .u64 0::wc (List.replicate (cap-4) 0)) 142)] }
theorem JW:uL 6:=fun x0 x1 x2 y0=>by kernel_rfl
theorem JV:uL 7:=fun x0 x1 x2 y0=>by kernel_rfl
theorem JU:uL 8:=fun x0 x1 x2 y0=>by kernel_rfl
theorem JT:uL 9:=fun x0 x1 x2 y0=>by kernel_rfl
theorem aHw {cap:Nat} (h:cap=6\/cap=7\/cap=8\/cap=9):uL cap:=by
 rcases h with rfl | rfl | rfl | rfl
 .exact JW
 .exact JV
 .exact JU
 .exact JT
def qX (cap:Nat):Prop:=∀ x0 x1 x2 y0:Int,jH [false] [false,true] (.aI 64 true 0 3 cap) (.aI 65 true 0 1 6) (wc (x0::x1::x2::List.replicate (cap-3) 0)) (wc [y0,0,0,0,0,0])=some { bV:=([(IntKind.u64.wrap (x2+1)==0)=false,(x2 != 18446744073709551615)=true,(M.uh (x1+M.uh (x0+y0+0)+0)==0)=false,M.U x1,M.U (M.uh (x0+y0+0)),M.K 0,x1=x1,M.uh (x0+y0+0)=M.uh (x0+y0+0),(0:Int)=0,M.U x0,M.U y0,M.K 0,x0=x0,y0=y0,(0:Int)=0]:List Prop),val:=.ptr 61 true 0,wr:=[(61,.own [.bool true false,.aI 64 true 0 3 cap] 122),(64,.own (.int false .u64 (M.ul (x0+y0+0)) :: .int false .u64 (M.ul (x1+M.uh (x0+y0+0)+0)) :: .int false .u64 (IntKind.u64.wrap (x2+1)) :: .int true .u64 0::wc (List.replicate (cap-4) 0)) 142)] }
theorem Yt:qX 6:=fun x0 x1 x2 y0=>by kernel_rfl
theorem Ys:qX 7:=fun x0 x1 x2 y0=>by kernel_rfl
theorem Yr:qX 8:=fun x0 x1 x2 y0=>by kernel_rfl
theorem Yq:qX 9:=fun x0 x1 x2 y0=>by kernel_rfl
theorem XE {cap:Nat} (h:cap=6\/cap=7\/cap=8\/cap=9):qX cap:=by
 rcases h with rfl | rfl | rfl | rfl
 .exact Yt
 .exact Ys
 .exact Yr
 .exact Yq
def uK (cap:Nat):Prop:=∀ x0 x1 x2 y0 y1:Int,jH [false] [true] (.aI 64 true 0 3 cap) (.aI 65 true 0 2 6) (wc (x0::x1::x2::List.replicate (cap-3) 0)) (wc [y0,y1,0,0,0,0])=some { bV:=([(M.ul (x2+M.uh (x1+y1+M.uh (x0+y0+0))+0)==0)=false,(M.uh (x2+M.uh (x1+y1+M.uh (x0+y0+0))+0)==0)=true,M.U x2,M.U (M.uh (x1+y1+M.uh (x0+y0+0))),M.K 0,x2=x2,M.uh (x1+y1+M.uh (x0+y0+0))=M.uh (x1+y1+M.uh (x0+y0+0)),(0:Int)=0,M.U x1,M.U y1,M.K (M.uh (x0+y0+0)),x1=x1,y1=y1,M.uh (x0+y0+0)=M.uh (x0+y0+0),M.U x0,M.U y0,M.K 0,x0=x0,y0=y0,(0:Int)=0]:List Prop),val:=.ptr 61 true 0,wr:=[(61,.own [.bool true false,.aI 64 true 0 3 cap] 122),(64,.own (.int false .u64 (M.ul (x0+y0+0)) :: .int false .u64 (M.ul (x1+y1+M.uh (x0+y0+0))) :: .int false .u64 (M.ul (x2+M.uh (x1+y1+M.uh (x0+y0+0))+0)) :: .int true .u64 0::wc (List.replicate (cap-4) 0)) 142)] }
theorem JS:uK 6:=fun x0 x1 x2 y0 y1=>by kernel_rfl
theorem JR:uK 7:=fun x0 x1 x2 y0 y1=>by kernel_rfl
theorem JQ:uK 8:=fun x0 x1 x2 y0 y1=>by kernel_rfl
theorem JP:uK 9:=fun x0 x1 x2 y0 y1=>by kernel_rfl
theorem aHv {cap:Nat} (h:cap=6\/cap=7\/cap=8\/cap=9):uK cap:=by
 rcases h with rfl | rfl | rfl | rfl
 .exact JS
 .exact JR
 .exact JQ
 .exact JP
theorem aRe (_z:Int) :
 Py (.aI 65 true 0 0 6) (wc [0,0,0,0,0,0]) =
 some {val:=.ptr 61 true 0,wr:=[(61,.own [.bool true false,.raw (Value.slice none 0 0)] 122)]}:=by kernel_rfl
theorem aRd (y0:Int) :
 Py (.aI 65 true 0 1 6) (wc [y0,0,0,0,0,0]) =
 some {val:=.ptr 61 true 0,new:=[.own [.int false .u64 y0] 142],wr:=[(61,.own [.bool true false,.aI 100 true 0 1 1] 122)]}:=by kernel_rfl
theorem aRc (y0 y1:Int) :
 Py (.aI 65 true 0 2 6) (wc [y0,y1,0,0,0,0]) =
 some {val:=.ptr 61 true 0,new:=[.own [.int false .u64 y0,.int false .u64 y1,.int true .u64 0,.int true .u64 0,.int true .u64 0,.int true .u64 0] 142],wr:=[(61,.own [.bool true false,.aI 100 true 0 2 6] 122)]}:=by kernel_rfl
namespace M
theorem aWw {N:Int} (h0:w0 N=0) (h1:w1 N=0) (h2:w2 N=0):ln N=0:=by unfold ln;rw [h0,h1,h2];decide
theorem aCf {N:Int} (h0:w0 N≠0) (h1:w1 N=0) (h2:w2 N=0):ln N=1:=by unfold ln;rw [h1,h2];simp only [nl,if_true,if_neg h0]
theorem Wd {N:Int} (h1:w1 N≠0) (h2:w2 N=0):ln N=2:=by unfold ln;rw [h2];simp only [nl,if_true,if_neg h1]
theorem Pc {N:Int} (h2:w2 N≠0):ln N=3:=by unfold ln;simp only [nl,if_neg h2]
end M
theorem BY (h h2:List Bool):aH Tryz.prog (env (CC h h2) 22) 75 (aR (env (CC h h2) 22) Tryz.f75 true [] 400):=aY (bH _ 22) (bJ _ (XP h h2) 22) mix Tryz.func75 (by kernel_rfl) true [] 400
def wN (N:Int) (cap:Nat):List SV:=wc (M.w0 N::M.w1 N::M.w2 N::List.replicate (cap-3) 0)
def faE (N:Int) (cap:Nat) (Y:SV) (ys:List SV):bR:={ val:=.ptr 61 true 0,wr:=[(61,.own [.bool true false,.aI 64 false 0 (M.ln N) cap] 122),(64,.own (wN N cap) 142),(63,.own [.bool true false,Y] 122),(65,.own ys 142)] }
theorem HE {n m ca:Nat} {xs ys:List SV} {e:bR} (h:aD Tryz.prog Γv 75 yX (fun l=>look l (PK (.aI 64 true 0 n ca) (.aI 65 true 0 m 6) xs ys)) 100 100 e):aD Tryz.prog Γv 75 yX (fun l=>look l (PK (.aI 64 false 0 n ca) (.aI 65 false 0 m 6) xs ys)) 100 100 e:=
 aD.reL (L:=PK (.aI 64 true 0 n ca) (.aI 65 true 0 m 6) xs ys) (L':=PK (.aI 64 false 0 n ca) (.aI 65 false 0 m 6) xs ys) h ⟨rfl,⟨rfl,fun _=>rfl⟩,rfl,⟨rfl,fun _=>rfl⟩,rfl,bZ _,rfl,bZ _,rfl,bZ _,rfl,bZ _,trivial⟩ (fun _=>rfl)
theorem lH {h hh:List Bool} {la ly k cap:Nat} {xs ys cells:List SV} {N:Int} {ob:List Prop} (e:jH h hh (.aI 64 true 0 la cap) (.aI 65 true 0 ly 6) xs ys=some { bV:=ob,val:=.ptr 61 true 0,wr:=[(61,.own [.bool true false,.aI 64 true 0 k cap] 122),(64,.own cells 142)] }) (ho:∀ q∈ob,q)
 (hk:k=M.ln N) (hc:∀ V,aJ V (wN N cap)=aJ V cells):aD Tryz.prog Γv 75 yX (fun l=>look l (PK (.aI 64 false 0 la cap) (.aI 65 false 0 ly 6) xs ys)) 100 100 (faE N cap (.aI 65 false 0 ly 6) ys):=by
 subst hk
 exact HE (((((BY h hh).call e ho).bE 63 _ rfl (by decide)).bE 65 _ rfl (by decide)).re rfl (fun _=>rfl) trivial ⟨rfl,⟨rfl,fun _=>rfl⟩,rfl,⟨rfl,hc⟩,rfl,⟨rfl,fun _=>rfl⟩,rfl,⟨rfl,fun _=>rfl⟩,trivial⟩)
theorem aIl {h hh:List Bool} {la ly k cap:Nat} {xs ys:List SV} {N:Int} (e:jH h hh (.aI 64 true 0 la cap) (.aI 65 true 0 ly 6) xs ys=some { val:=.ptr 61 true 0,wr:=[(61,.own [.bool true false,.aI 64 true 0 k cap] 122)] })
 (hk:k=M.ln N) (hc:∀ V,aJ V (wN N cap)=aJ V xs):aD Tryz.prog Γv 75 yX (fun l=>look l (PK (.aI 64 false 0 la cap) (.aI 65 false 0 ly 6) xs ys)) 100 100 (faE N cap (.aI 65 false 0 ly 6) ys):=by
 subst hk
 exact HE ((((((BY h hh).call e (by simp)).bE 64 _ rfl (by decide)).bE 63 _ rfl (by decide)).bE 65 _ rfl (by decide)).re rfl (fun _=>rfl) trivial ⟨rfl,⟨rfl,fun _=>rfl⟩,rfl,⟨rfl,hc⟩,rfl,⟨rfl,fun _=>rfl⟩,rfl,⟨rfl,fun _=>rfl⟩,trivial⟩)
theorem kH {N:Int} {cap:Nat} (h:6<=cap) {a b c:Int} (h0:M.w0 N=a) (h1:M.w1 N=b) (h2:M.w2 N=c):wN N cap = .int false .u64 a :: .int false .u64 b :: .int false .u64 c :: .int false .u64 0::wc (List.replicate (cap-4) 0):=by
 obtain ⟨n,rfl⟩:∃ n,cap=n+4:=⟨cap-4,by omega⟩
 subst h0 h1 h2
 rfl
open M in
theorem XD {cap:Nat} (jM:cap=6\/cap=7\/cap=8\/cap=9) {la ly:Nat} {x0 x1 x2 y0 y1:Int} (gE:U x0) (gL:U x1) (oV:0<=x2/\x2<4) (fC:U y0) (iJ:U y1) (cX:la=nl [x0,x1,x2]) (hly:ly=nl [y0,y1]) :
 aD Tryz.prog Γv 75 yX (fun l=>look l (PK (.aI 64 false 0 la cap) (.aI 65 false 0 ly 6) (wc (x0::x1::x2::List.replicate (cap-3) 0)) (wc [y0,y1,0,0,0,0]))) 100 100 (faE (n3 x0 x1 x2+(y0+18446744073709551616*y1)) cap (.aI 65 false 0 ly 6) (wc [y0,y1,0,0,0,0])):=by
 have h6:6<=cap:=by omega
 obtain ⟨ux0,vx0⟩:=gE
 obtain ⟨ux1,vx1⟩:=gL
 obtain ⟨uy0,vy0⟩:=fC
 obtain ⟨uy1,vy1⟩:=iJ
 obtain ⟨N,hN⟩:∃ N,N=n3 x0 x1 x2+(y0+18446744073709551616*y1):=⟨_,rfl⟩
 have AU:=hN
 unfold n3 at AU
 rw [<- hN]
 rcases nl3 x0 x1 x2 with ⟨h,rfl,rfl,rfl⟩ | ⟨h,n0,rfl,rfl⟩ | ⟨h,n1,rfl⟩ | ⟨h,n2⟩ <;> rcases OT y0 y1 with ⟨h',rfl,rfl⟩ | ⟨h',m0,rfl⟩ | ⟨h',m1⟩ <;> rw [h] at cX <;> rw [h'] at hly <;> subst cX <;> subst hly
 .exact aIl (aIk jM 0) (aWw (by unfold w0;omega) (by unfold w1;omega) (by unfold w2;omega)).symm (fun _=>by rw [kH h6 (a:=0) (b:=0) (c:=0) (by unfold w0;omega) (by unfold w1;omega) (by unfold w2;omega) ] <;> (obtain ⟨n,rfl⟩:∃ n,cap=n+4:=⟨cap-4,by omega⟩;rfl))
 .exact lH (aIj jM y0) (by simp) (aCf (by unfold w0;omega) (by unfold w1;omega) (by unfold w2;omega)).symm (fun _=>by rw [kH h6 (a:=y0) (b:=0) (c:=0) (by unfold w0;omega) (by unfold w1;omega) (by unfold w2;omega) ] <;> (obtain ⟨n,rfl⟩:∃ n,cap=n+4:=⟨cap-4,by omega⟩;rfl))
 .exact lH (aIi jM y0 y1) (by simp) (Wd (by unfold w1;omega) (by unfold w2;omega)).symm (fun _=>by rw [kH h6 (a:=y0) (b:=y1) (c:=0) (by unfold w0;omega) (by unfold w1;omega) (by unfold w2;omega) ] <;> (obtain ⟨n,rfl⟩:∃ n,cap=n+4:=⟨cap-4,by omega⟩;rfl))
 .exact lH (aIh jM x0) (by simp) (aCf (by unfold w0;omega) (by unfold w1;omega) (by unfold w2;omega)).symm (fun _=>by rw [kH h6 (a:=x0) (b:=0) (c:=0) (by unfold w0;omega) (by unfold w1;omega) (by unfold w2;omega) ] <;> (obtain ⟨n,rfl⟩:∃ n,cap=n+4:=⟨cap-4,by omega⟩;rfl))
 .by_cases Dn:uh (x0+y0+0)=0
  .have Ac:w0 N=ul (x0+y0+0):=by unfold w0 ul;omega
   have tL:w1 N=uh (x0+y0+0):=by unfold w1;unfold ul uh at *;omega
   have sA:w2 N=0:=by unfold w2;unfold ul uh at *;omega
   refine lH (aIg jM x0 y0) (aA ?_) ?_ (fun _=>by rw [kH h6 Ac tL sA] <;> rfl)
   .simp only [aO,beq_eq_false_iff_ne,beq_iff_eq,bne_iff_ne,ne_eq,and_true,true_and]
    unfold U K ul uh at *
    omega
   .symm
    refine aCf (by rw [Ac] <;> first | decide | (unfold ul uh at *;omega) | (rw [bP];unfold ul uh at *;omega)) (by rw [tL] <;> first | decide | (unfold ul uh at *;omega) | (rw [bP];unfold ul uh at *;omega)) (by rw [sA] <;> first | decide | (unfold ul uh at *;omega) | (rw [bP];unfold ul uh at *;omega))
  .have Ac:w0 N=ul (x0+y0+0):=by unfold w0 ul;omega
   have tL:w1 N=uh (x0+y0+0):=by unfold w1;unfold ul uh at *;omega
   have sA:w2 N=0:=by unfold w2;unfold ul uh at *;omega
   refine lH (aIf jM x0 y0) (aA ?_) ?_ (fun _=>by rw [kH h6 Ac tL sA] <;> rfl)
   .simp only [aO,beq_eq_false_iff_ne,beq_iff_eq,bne_iff_ne,ne_eq,and_true,true_and]
    unfold U K ul uh at *
    omega
   .symm
    refine Wd (by rw [tL] <;> first | decide | (unfold ul uh at *;omega) | (rw [bP];unfold ul uh at *;omega)) (by rw [sA] <;> first | decide | (unfold ul uh at *;omega) | (rw [bP];unfold ul uh at *;omega))
 .by_cases Dn:uh (y1+uh (y0+x0+0)+0)=0
  .have Ac:w0 N=ul (y0+x0+0):=by unfold w0 ul;omega
   have tL:w1 N=ul (y1+uh (y0+x0+0)+0):=by unfold w1;unfold ul uh at *;omega
   have sA:w2 N=0:=by unfold w2;unfold ul uh at *;omega
   refine lH (aIe jM x0 y0 y1) (aA ?_) ?_ (fun _=>by rw [kH h6 Ac tL sA] <;> rfl)
   .simp only [aO,beq_eq_false_iff_ne,beq_iff_eq,bne_iff_ne,ne_eq,and_true,true_and]
    unfold U K ul uh at *
    omega
   .symm
    refine Wd (by rw [tL] <;> first | decide | (unfold ul uh at *;omega) | (rw [bP];unfold ul uh at *;omega)) (by rw [sA] <;> first | decide | (unfold ul uh at *;omega) | (rw [bP];unfold ul uh at *;omega))
  .have Ac:w0 N=ul (y0+x0+0):=by unfold w0 ul;omega
   have tL:w1 N=ul (y1+uh (y0+x0+0)+0):=by unfold w1;unfold ul uh at *;omega
   have sA:w2 N=1:=by unfold w2;unfold ul uh at *;omega
   refine lH (aId jM x0 y0 y1) (aA ?_) ?_ (fun _=>by rw [kH h6 Ac tL sA] <;> rfl)
   .simp only [aO,beq_eq_false_iff_ne,beq_iff_eq,bne_iff_ne,ne_eq,and_true,true_and]
    unfold U K ul uh at *
    omega
   .symm
    refine Pc (by rw [sA] <;> first | decide | (unfold ul uh at *;omega) | (rw [bP];unfold ul uh at *;omega))
 .exact lH (aIc jM x0 x1) (by simp) (Wd (by unfold w1;omega) (by unfold w2;omega)).symm (fun _=>by rw [kH h6 (a:=x0) (b:=x1) (c:=0) (by unfold w0;omega) (by unfold w1;omega) (by unfold w2;omega) ] <;> (obtain ⟨n,rfl⟩:∃ n,cap=n+4:=⟨cap-4,by omega⟩;rfl))
 .by_cases Dn:uh (x1+uh (x0+y0+0)+0)=0
  .have Ac:w0 N=ul (x0+y0+0):=by unfold w0 ul;omega
   have tL:w1 N=ul (x1+uh (x0+y0+0)+0):=by unfold w1;unfold ul uh at *;omega
   have sA:w2 N=0:=by unfold w2;unfold ul uh at *;omega
   refine lH (aIb jM x0 x1 y0) (aA ?_) ?_ (fun _=>by rw [kH h6 Ac tL sA] <;> rfl)
   .simp only [aO,beq_eq_false_iff_ne,beq_iff_eq,bne_iff_ne,ne_eq,and_true,true_and]
    unfold U K ul uh at *
    omega
   .symm
    refine Wd (by rw [tL] <;> first | decide | (unfold ul uh at *;omega) | (rw [bP];unfold ul uh at *;omega)) (by rw [sA] <;> first | decide | (unfold ul uh at *;omega) | (rw [bP];unfold ul uh at *;omega))
  .have Ac:w0 N=ul (x0+y0+0):=by unfold w0 ul;omega
   have tL:w1 N=ul (x1+uh (x0+y0+0)+0):=by unfold w1;unfold ul uh at *;omega
   have sA:w2 N=1:=by unfold w2;unfold ul uh at *;omega
   refine lH (aIa jM x0 x1 y0) (aA ?_) ?_ (fun _=>by rw [kH h6 Ac tL sA] <;> rfl)
   .simp only [aO,beq_eq_false_iff_ne,beq_iff_eq,bne_iff_ne,ne_eq,and_true,true_and]
    unfold U K ul uh at *
    omega
   .symm
    refine Pc (by rw [sA] <;> first | decide | (unfold ul uh at *;omega) | (rw [bP];unfold ul uh at *;omega))
 .by_cases Dn:uh (x1+y1+uh (x0+y0+0))=0
  .have Ac:w0 N=ul (x0+y0+0):=by unfold w0 ul;omega
   have tL:w1 N=ul (x1+y1+uh (x0+y0+0)):=by unfold w1;unfold ul uh at *;omega
   have sA:w2 N=uh (x1+y1+uh (x0+y0+0)):=by unfold w2;unfold ul uh at *;omega
   refine lH (aHz jM x0 x1 y0 y1) (aA ?_) ?_ (fun _=>by rw [kH h6 Ac tL sA] <;> rfl)
   .simp only [aO,beq_eq_false_iff_ne,beq_iff_eq,bne_iff_ne,ne_eq,and_true,true_and]
    unfold U K ul uh at *
    omega
   .symm
    refine Wd (by rw [tL] <;> first | decide | (unfold ul uh at *;omega) | (rw [bP];unfold ul uh at *;omega)) (by rw [sA] <;> first | decide | (unfold ul uh at *;omega) | (rw [bP];unfold ul uh at *;omega))
  .have Ac:w0 N=ul (x0+y0+0):=by unfold w0 ul;omega
   have tL:w1 N=ul (x1+y1+uh (x0+y0+0)):=by unfold w1;unfold ul uh at *;omega
   have sA:w2 N=uh (x1+y1+uh (x0+y0+0)):=by unfold w2;unfold ul uh at *;omega
   refine lH (aHy jM x0 x1 y0 y1) (aA ?_) ?_ (fun _=>by rw [kH h6 Ac tL sA] <;> rfl)
   .simp only [aO,beq_eq_false_iff_ne,beq_iff_eq,bne_iff_ne,ne_eq,and_true,true_and]
    unfold U K ul uh at *
    omega
   .symm
    refine Pc (by rw [sA] <;> first | decide | (unfold ul uh at *;omega) | (rw [bP];unfold ul uh at *;omega))
 .exact lH (aHx jM x0 x1 x2) (by simp) (Pc (by unfold w2;omega)).symm (fun _=>by rw [kH h6 (a:=x0) (b:=x1) (c:=x2) (by unfold w0;omega) (by unfold w1;omega) (by unfold w2;omega) ] <;> (obtain ⟨n,rfl⟩:∃ n,cap=n+4:=⟨cap-4,by omega⟩;rfl))
 .by_cases Dn:uh (x1+uh (x0+y0+0)+0)=0
  .have Ac:w0 N=ul (x0+y0+0):=by unfold w0 ul;omega
   have tL:w1 N=ul (x1+uh (x0+y0+0)+0):=by unfold w1;unfold ul uh at *;omega
   have sA:w2 N=x2:=by unfold w2;unfold ul uh at *;omega
   refine lH (aHw jM x0 x1 x2 y0) (aA ?_) ?_ (fun _=>by rw [kH h6 Ac tL sA] <;> rfl)
   .simp only [aO,beq_eq_false_iff_ne,beq_iff_eq,bne_iff_ne,ne_eq,and_true,true_and]
    unfold U K ul uh at *
    omega
   .symm
    refine Pc (by rw [sA] <;> first | decide | (unfold ul uh at *;omega) | (rw [bP];unfold ul uh at *;omega))
  .have Ac:w0 N=ul (x0+y0+0):=by unfold w0 ul;omega
   have tL:w1 N=ul (x1+uh (x0+y0+0)+0):=by unfold w1;unfold ul uh at *;omega
   have sA:w2 N=IntKind.u64.wrap (x2+1):=by rw [bP];unfold w2;unfold ul uh at *;omega
   refine lH (XE jM x0 x1 x2 y0) (aA ?_) ?_ (fun _=>by rw [kH h6 Ac tL sA] <;> rfl)
   .simp only [aO,beq_eq_false_iff_ne,beq_iff_eq,bne_iff_ne,ne_eq,and_true,true_and,bP]
    unfold U K ul uh at *
    omega
   .symm
    refine Pc (by rw [sA] <;> first | decide | (unfold ul uh at *;omega) | (rw [bP];unfold ul uh at *;omega))
 .have Ac:w0 N=ul (x0+y0+0):=by unfold w0 ul;omega
  have tL:w1 N=ul (x1+y1+uh (x0+y0+0)):=by unfold w1;unfold ul uh at *;omega
  have sA:w2 N=ul (x2+uh (x1+y1+uh (x0+y0+0))+0):=by unfold w2;unfold ul uh at *;omega
  refine lH (aHv jM x0 x1 x2 y0 y1) (aA ?_) ?_ (fun _=>by rw [kH h6 Ac tL sA] <;> rfl)
  .simp only [aO,beq_eq_false_iff_ne,beq_iff_eq,bne_iff_ne,ne_eq,and_true,true_and]
   unfold U K ul uh at *
   omega
  .symm
   refine Pc (by rw [sA] <;> first | decide | (unfold ul uh at *;omega) | (rw [bP];unfold ul uh at *;omega))
namespace M
theorem tA {x:Int} (h0:0<=x) (h:x<1000000):IntKind.i64.wrap x=x:=IntWalk.i64_in _ ⟨by omega,by omega⟩
theorem aAi {a:Int} {s:List Int} (hs:bG s):∀ i:Nat,i<=16 ->
 sc (num a) s i=(vs (fun j=>a/256^j%256) i+vs (fun j=>s.getD j 0) i)/256^i/\0<=sc (num a) s i/\sc (num a) s i<=1
 | 0,_=>by simp [sc,vs]
 | i+1,h=>by
   obtain ⟨e,h0,h1⟩:=aAi (a:=a) hs i (by omega)
   have hd:(num a).getD i 0=a/256^i%256:=Uh a (by omega)
   obtain ⟨hf0,hf1⟩:=hs.get i
   have hP:(0:Int)<256^i:=Int.pow_pos (by decide)
   have AQ:0<=a/256^i%256/\a/256^i%256<256:=⟨Int.emod_nonneg _ (by decide),Int.emod_lt_of_pos _ (by decide)⟩
   have hsc:sc (num a) s (i+1)=(sc (num a) s i+(a/256^i%256+s.getD i 0))/256:=by
    show IntKind.i64.wrap ((IntKind.i64.wrap (IntKind.i64.wrap (sc (num a) s i+(num a).getD i 0)+IntKind.i64.wrap (s.getD i 0))).tdiv 256)=_
    rw [hd,tA (x:=sc (num a) s i+a/256^i%256) (by omega) (by omega),tA (x:=s.getD i 0) (by omega) (by omega),tA (x:=sc (num a) s i+a/256^i%256+s.getD i 0) (by omega) (by omega),Int.tdiv_eq_ediv_of_nonneg (by omega),tA (by omega) (by omega),Int.add_assoc]
   refine ⟨?_,by rw [hsc];omega,by rw [hsc];omega⟩
   rw [hsc,iQ,iQ,Int.pow_succ]
   have e2:vs (fun j=>a/256^j%256) i+256^i*(a/256^i%256)+(vs (fun j=>s.getD j 0) i+256^i*s.getD i 0)=(vs (fun j=>a/256^j%256) i+vs (fun j=>s.getD j 0) i)+256^i*(a/256^i%256+s.getD i 0):=by
    rw [Int.mul_add];omega
   rw [e2,<- Int.ediv_ediv_of_nonneg (by omega),Int.add_mul_ediv_left _ _ (by omega),<- e]
theorem RN {a:Int} {s:List Int} (hs:bG s):Dy (num a) s=(List.range 16).map (nb (a+vs (fun j=>s.getD j 0) 16)):=by
 unfold Dy
 refine List.map_congr_left fun i hi=>?_
 have hi:i<16:=by simpa using hi
 obtain ⟨e,h0,h1⟩:=aAi (a:=a) hs i (by omega)
 have hd:(num a).getD i 0=a/256^i%256:=Uh a (by omega)
 obtain ⟨hf0,hf1⟩:=hs.get i
 have hP:(0:Int)<256^i:=Int.pow_pos (by decide)
 have AQ:0<=a/256^i%256/\a/256^i%256<256:=⟨Int.emod_nonneg _ (by decide),Int.emod_lt_of_pos _ (by decide)⟩
 rw [hd,tA (x:=sc (num a) s i+a/256^i%256) (by omega) (by omega),tA (x:=s.getD i 0) (by omega) (by omega),tA (x:=sc (num a) s i+a/256^i%256+s.getD i 0) (by omega) (by omega),Int.tmod_eq_emod_of_nonneg (by omega),IntKind.wrap_u8,e]
 unfold nb
 have e1:=pB (fun j=>s.getD j 0) (16-(i+1)) (i+1)
 rw [show i+1+(16-(i+1))=16 from by omega,iQ (fun j=>s.getD j 0) i] at e1
 have e3:vs (fun j=>a/256^j%256) i=a%256^i:=GF a i
 have e4:a=a%256^i+256^i*(a/256^i):=(Int.emod_add_mul_ediv a _).symm
 generalize vs (fun j=>s.getD (i+1+j) 0) (16-(i+1))=R at e1
 generalize vs (fun j=>s.getD j 0) i=S at *
 generalize s.getD i 0=f at *
 rw [e3,e1,Int.pow_succ]
 generalize hP':(256:Int)^i=P at *
 generalize hQ:a/P=Q at *
 have e5:a+(S+P*f+P*256*R)=(a%P+S)+P*(Q+f+256*R):=by
  have:P*(Q+f+256*R)=P*Q+P*f+P*256*R:=by rw [Int.mul_add,Int.mul_add,Int.mul_assoc]
  omega
 rw [e5,Int.add_mul_ediv_left _ _ (by omega)]
 omega
theorem bCe (b0 b1 b2 b3 b4 b5 b6 b7 b8 b9 dF dD dC dB dA gP:Int) :
 V [b0,b1,b2,b3,b4,b5,b6,b7,b8,b9,dF,dD,dC,dB,dA,gP,1]=n3 (V [b0,b1,b2,b3,b4,b5,b6,b7]) (V [b8,b9,dF,dD,dC,dB,dA,gP]) 1:=by
 simp only [By,Tl]
 unfold n3
 omega
theorem aMr (b0 b1 b2 b3 b4 b5 b6 b7 b8 b9 dF dD dC dB dA gP:Int) :
 V [b0,b1,b2,b3,b4,b5,b6,b7,b8,b9,dF,dD,dC,dB,dA,gP]=V [b0,b1,b2,b3,b4,b5,b6,b7]+18446744073709551616*V [b8,b9,dF,dD,dC,dB,dA,gP]:=by
 simp only [By,Tl]
 omega
end M
def iB (X:SV):SB:=.own [.bool true false,X] 122
def aCe:SV:=.raw (.slice none 0 0)
def faW (m:Nat) (ys:List SV):List (Nat × SB):=[(63,iB (.aI 65 false 0 m 6)),(65,.own ys 142)]
def aMh (iK:Nat) (y0 y1:Int):bR:=match iK with
 | 0=>{ val:=.ptr 61 true 0,wr:=(61,iB aCe)::faW 0 (wc [y0,y1,0,0,0,0]) }
 | 1=>{ val:=.ptr 61 true 0,new:=[.own [.int false .u64 y0] 142],wr:=(61,iB (.aI 100 true 0 1 1))::faW 1 (wc [y0,y1,0,0,0,0]) }
 | _=>{ val:=.ptr 61 true 0,new:=[.own (wc [y0,y1,0,0,0,0]) 142],wr:=(61,iB (.aI 100 true 0 2 6))::faW 2 (wc [y0,y1,0,0,0,0]) }
theorem Ix {m:Nat} {ys:List SV} {e:bR} (h:aD Tryz.prog Γv 75 yX (fun l=>look l (Pk (.aI 65 true 0 m 6) ys)) 100 100 e):aD Tryz.prog Γv 75 yX (fun l=>look l (Pk (.aI 65 false 0 m 6) ys)) 100 100 e:=
 aD.reL (L:=Pk (.aI 65 true 0 m 6) ys) (L':=Pk (.aI 65 false 0 m 6) ys) h ⟨rfl,⟨rfl,fun _=>rfl⟩,rfl,⟨rfl,fun _=>rfl⟩,rfl,bZ _,rfl,bZ _,rfl,bZ _,trivial⟩ (fun _=>rfl)
open M in
theorem JO {iK:Nat} (Ee:iK<3) {y0 y1:Int} (h:iK=nl [y0,y1]):aD Tryz.prog Γv 75 yX (fun l=>look l (Pk (.aI 65 false 0 iK 6) (wc [y0,y1,0,0,0,0]))) 100 100 (aMh iK y0 y1):=by
 rcases OT y0 y1 with ⟨h',rfl,rfl⟩ | ⟨h',m0,rfl⟩ | ⟨h',m1⟩ <;> rw [h'] at h <;> subst h
 .exact Ix (((((BY [] []).call (aRe 0) (by simp)).bE 63 _ rfl (by decide)).bE 65 _ rfl (by decide)).re rfl (fun _=>rfl) trivial ⟨rfl,⟨rfl,fun _=>rfl⟩,rfl,⟨rfl,fun _=>rfl⟩,rfl,⟨rfl,fun _=>rfl⟩,trivial⟩)
 .exact Ix (((((BY [] []).call (aRd y0) (by simp)).bE 63 _ rfl (by decide)).bE 65 _ rfl (by decide)).re rfl (fun _=>rfl) ⟨⟨rfl,fun _=>rfl⟩,trivial⟩ ⟨rfl,⟨rfl,fun _=>rfl⟩,rfl,⟨rfl,fun _=>rfl⟩,rfl,⟨rfl,fun _=>rfl⟩,trivial⟩)
 .exact Ix (((((BY [] []).call (aRc y0 y1) (by simp)).bE 63 _ rfl (by decide)).bE 65 _ rfl (by decide)).re rfl (fun _=>rfl) ⟨⟨rfl,fun _=>rfl⟩,trivial⟩ ⟨rfl,⟨rfl,fun _=>rfl⟩,rfl,⟨rfl,fun _=>rfl⟩,rfl,⟨rfl,fun _=>rfl⟩,trivial⟩)
open M in
def EO (iK:Nat) (vs:List SV) (T:bA):Option Canon:=match vs with
 | [.ptr l1 true 0,.ptr l2 true 0,.ptr l3 true 0]=>match Nat.beq l1 l2,T l1,T l3 with
   | true,some (.own [.bool _ _,X] 122),some (.own [.bool _ _,.aI ly _ 0 m 6] 122)=>match T ly with
     | some (.own ys 142)=>match dV .u64 ys with
       | some (y0::y1::_)=>match X with
         | .raw (.slice none 0 0)=>match Nat.blt iK 3 with
           | true=>some { eR:=yX,T0:=Pk (.aI 65 false 0 iK 6) (wc [y0,y1,0,0,0,0]),vl:=[(61,.lab l1 0),(63,.lab l3 0),(65,.lab ly 0)],e0:=aMh iK y0 y1,conds:=[iK=nl [y0,y1]] }
           | false=>none
         | .aI lx _ 0 n ca=>match T lx with
           | some (.own xs 142)=>match dV .u64 xs with
             | some (x0::x1::x2::_)=>some { eR:=yX,T0:=PK (.aI 64 false 0 n ca) (.aI 65 false 0 m 6) (wc (x0::x1::x2::List.replicate (ca-3) 0)) (wc [y0,y1,0,0,0,0]),vl:=[(61,.lab l1 0),(63,.lab l3 0),(64,.lab lx 0),(65,.lab ly 0)],e0:=faE (n3 x0 x1 x2+(y0+18446744073709551616*y1)) ca (.aI 65 false 0 m 6) (wc [y0,y1,0,0,0,0]),conds:=[ca=6\/ca=7\/ca=8\/ca=9,U x0,U x1,0<=x2/\x2<4,U y0,U y1,n=nl [x0,x1,x2],m=nl [y0,y1]] }
             | _=>none
           | _=>none
         | _=>none
       | _=>none
     | _=>none
   | _,_,_=>none
 | _=>none
theorem aHu (iK:Nat) (Γ:Env) (hg:Γ.aU=aB):aH Tryz.prog Γ 75 (aK aB 100 (EO iK)):=by
 refine aT hg fun vs T c hd hc=>?_
 unfold EO at hd
 split at hd
 case h_2=>cases hd
 split at hd
 case h_2=>cases hd
 split at hd
 case h_2=>cases hd
 split at hd
 case h_2=>cases hd
 split at hd
 case h_3=>cases hd
 .split at hd
  case h_2=>cases hd
  rename_i cK
  cases hd
  exact (JO (by simpa [Nat.blt_eq] using cK) (hc _ (by simp))).words (by rw [hg];rfl) (fun _=>rfl) (fun _ _ h=>h) (fun _=>rfl) rfl rfl
 .split at hd
  case h_2=>cases hd
  split at hd
  case h_2=>cases hd
  cases hd
  exact (XD (hc _ (by simp)) (hc _ (by simp)) (hc _ (by simp)) (hc _ (by simp)) (hc _ (by simp)) (hc _ (by simp)) (hc _ (by simp)) (hc _ (by simp))).words (by rw [hg];rfl) (fun _=>rfl) (fun _ _ h=>h) (fun _=>rfl) rfl rfl
open M in
theorem IK {ca:Nat} (jM:ca=6\/ca=7\/ca=8\/ca=9) {k:Nat} {n0 n1 n2:Int} (h0:U n0) (h1:U n1) (h2:0<=n2/\n2<8) (hk:k=nl [n0,n1,n2]) :
 aD Tryz.prog Γv 72 mQ (fun l=>look l (Vk (.aI 63 false 0 k ca) (wc (n0::n1::n2::List.replicate (ca-3) 0)))) 100 100 (Zq (n0+18446744073709551616*n1) (NM (.aI 63 false 0 k ca) (wc (n0::n1::n2::List.replicate (ca-3) 0)))):=by
 rcases nl3 n0 n1 n2 with ⟨h,rfl,rfl,rfl⟩ | ⟨h,m0,rfl,rfl⟩ | ⟨h,m1,rfl⟩ | ⟨h,m2⟩ <;> rw [h] at hk <;> subst hk
 .exact IP ca _
 .have:=Mt (b:=false) ca h0 (wc (0::0::List.replicate (ca-3) 0))
  rw [show n0+18446744073709551616*0=n0 from by omega]
  exact this
 .exact IN (b:=false) ca h0 h1 (wc (0::List.replicate (ca-3) 0))
 .exact IM jM h0 h1 m2 h2.1 h2.2
open M in
def EB (vs:List SV) (T:bA):Option Canon:=match vs with
 | [.ptr l1 true 0,.aI lo true 0 16 16]=>match T l1 with
   | some (.own [.bool _ _,X] 122)=>match X with
     | .raw (.slice none 0 0)=>some { eR:=mQ,T0:=aCi,vl:=[(61,.lab l1 0),(62,.lab lo 0)],e0:=Zq 0 [(61,.own [.bool true false,.raw (.slice none 0 0)] 122)] }
     | .aI lx _ 0 k c=>match T lx with
       | some (.own xs 142)=>match dV .u64 xs with
         | some [a0]=>some { eR:=mQ,T0:=Vk (.aI 63 false 0 1 c) (ww a0 []),vl:=[(61,.lab l1 0),(62,.lab lo 0),(63,.lab lx 0)],e0:=Zq a0 (NM (.aI 63 false 0 1 c) (ww a0 [])),conds:=[U a0] }
         | some (a0::a1::a2::_)=>some { eR:=mQ,T0:=Vk (.aI 63 false 0 k c) (wc (a0::a1::a2::List.replicate (c-3) 0)),vl:=[(61,.lab l1 0),(62,.lab lo 0),(63,.lab lx 0)],e0:=Zq (a0+18446744073709551616*a1) (NM (.aI 63 false 0 k c) (wc (a0::a1::a2::List.replicate (c-3) 0))),conds:=[c=6\/c=7\/c=8\/c=9,U a0,U a1,0<=a2/\a2<8,k=nl [a0,a1,a2]] }
         | _=>none
       | _=>none
     | _=>none
   | _=>none
 | _=>none
theorem aPv (Γ:Env) (hg:Γ.aU=aB):aH Tryz.prog Γ 72 (aK aB 100 EB):=by
 refine aT hg fun vs T c hd hc=>?_
 unfold EB at hd
 split at hd
 case h_2=>cases hd
 split at hd
 case h_2=>cases hd
 split at hd
 case h_3=>cases hd
 .cases hd
  exact IL.words (by rw [hg];rfl) (fun _=>rfl) (fun _ _ h=>h) (fun _=>rfl) rfl rfl
 .split at hd
  case h_2=>cases hd
  split at hd
  case h_3=>cases hd
  .cases hd
   exact (Mt _ (hc _ (by simp)) _).words (by rw [hg];rfl) (fun _=>rfl) (fun _ _ h=>h) (fun _=>rfl) rfl rfl
  .cases hd
   exact (IK (hc _ (by simp)) (hc _ (by simp)) (hc _ (by simp)) (hc _ (by simp)) (hc _ (by simp))).words (by rw [hg];rfl) (fun _=>rfl) (fun _ _ h=>h) (fun _=>rfl) rfl rfl
def prL:List (Nat × SB):=[(17,.eY [.int true .i64 40]),(18,.eY [.int true .i64 40])]
def prE:bR:={ val:=.ptr 100 true 0,new:=[.own [.bool true false,.aI 101 true 0 3 8] 122,.own Dh 142] }
theorem aGj:aR (env fF 22) Tryz.f63 true [] 400 [.int true .u64 130,.int true .i64 5] (fun l=>look l prL) 100 100=some prE:=by kernel_rfl
theorem UE:aD Tryz.prog Γv 63 [.int true .u64 130,.int true .i64 5] (fun l=>look l prL) 100 100 prE:=
 ((aY (bH fF 22) (bJ fF (fun f S h Γ _=>lA f S h Γ) 22) mix Tryz.func63 (by kernel_rfl) true [] 400:aH Tryz.prog (env fF 22) 63 _).call aGj (by simp [prE])).re rfl (fun _=>rfl) ⟨⟨rfl,fun _=>rfl⟩,⟨rfl,fun _=>rfl⟩,trivial⟩ trivial
def DG (vs:List SV) (_:bA):Option Canon:=match vs with
 | [.int true .u64 130,.int true .i64 5]=>some { eR:=[.int true .u64 130,.int true .i64 5],T0:=prL,vl:=[],e0:=prE }
 | _=>none
theorem aOi (Γ:Env) (hg:Γ.aU=aB):aH Tryz.prog Γ 63 (aK aB 100 DG):=by
 refine aT hg fun vs T c hd hc=>?_
 unfold DG at hd
 split at hd
 case h_2=>cases hd
 cases hd
 exact UE.words (by rw [hg];rfl) (fun _=>rfl) (fun _ _ h=>h) (fun _=>rfl) rfl rfl
noncomputable def exG (iK lU sI:Nat):Nat->Option Sum:=eE (eE (eE (exT iK lU) 75 (aK aB 100 (EO sI))) 72 (aK aB 100 EB)) 63 (aK aB 100 DG)
theorem aIq (iK lU sI:Nat):∀ f S,exG iK lU sI f=some S->∀ Γ:Env,Γ.aU=aB->aH Tryz.prog Γ f S:=bI (bI (bI (aIo iK lU) 75 _ (aHu sI)) 72 _ aPv) 63 _ aOi
noncomputable def ΓT (iK lU sI:Nat):Env:=env (exG iK lU sI) 22
def BA (key:List Int):List SV:=[.agg (cQ .u8 32 key),.aI 62 true 0 5 5]
def sgB (d:Nat->List Int):List (Nat × SB):=[(62,.eY [.dX 71 (d 1).length,.dX 72 (d 2).length,.dX 73 (d 3).length,.dX 74 (d 4).length,.dX 75 (d 5).length]),(71,.dK .u8 (d 1)),(72,.dK .u8 (d 2)),(73,.dK .u8 (d 3)),(74,.dK .u8 (d 4)),(75,.dK .u8 (d 5)),(17,.eY [.int true .i64 40]),(18,.eY [.int true .i64 40])]
def Di (d:Nat->List Int):bA:=fun l=>look l (sgB d)
def sgX (c:Nat) (R:Int):SV:=match c with
 | 0=>.raw (.slice none 0 0)
 | c+1=>.aI 113 false 0 (M.ln R) (c+1)
def sgW (c:Nat) (R:Int):List (Nat × SB):=match c with
 | 0=>[]
 | c+1=>[(113,.own (wN R (c+1)) 142)]
def sgN (c:Nat):Nat:=match c with
 | 0=>113
 | _=>114
def aKv (ks:List Int) (y0 y1:Int) (m c:Nat) (R:Int) (held xs:List Int):List (Nat × SB):=
 [(100,.ints .u8 ks 38),(101,.own eT 105),(102,.own [.ptr 103 true 0] 113),(103,.own [.bool true false,.aI 104 true 0 3 8] 122),(104,.own Dh 142),(105,.own [.ptr 106 true 0] 110),(106,.own [.bool true false,.aI 107 false 0 m 6] 122),(107,.own (wc [y0,y1,0,0,0,0]) 142),(108,.own [.ptr 109 true 0] 110),(109,.own [.bool true false,sgX c R] 122),(110,.own [.buf 111] 47),(111,.cD .u8 held 5),(112,.dK .u8 xs)]++sgW c R
def aKw (j:SV) (n:Nat) (i:Int):List (Nat × SV):=[(2,.ptr 100 true 0),(4,.ptr 101 true 0),(5,.ptr 102 true 0),(7,.ptr 105 true 0),(8,.ptr 108 true 0),(9,.ptr 110 true 0),(10,.fn (.func 74) [] [.ptr 102 true 0,.ptr 108 true 0,.ptr 110 true 0,.ptr 105 true 0]),(48,.aI 62 true 0 5 5),(49,.int true .i64 5),(50,j),(54,.dX 112 n),(55,.int false .i64 n),(56,.int false .i64 i)]
noncomputable def Ak (j:SV) (n:Nat) (i:Int) (ks:List Int) (y0 y1:Int) (m c:Nat) (R:Int) (held xs:List Int):St:=aN (aKw j n i) (aKv ks y0 y1 m c R held xs) (sgN c) [] []
noncomputable def AE (iK lU sI:Nat) (d:Nat->List Int) (cf:Cf) (K:List Fr) (s:St):Option jA:=cA (ΓT iK lU sI) (aC 100 (Di d)) 100 Tryz.f48.ntmps [17] 100 2000 cf K s
noncomputable def sgC (d:Nat->List Int) (cl:List Cl) (j:SV) (n:Nat) (i:Int) (ks:List Int) (y0 y1:Int) (m c:Nat) (R:Int) (held xs:List Int) (r:Option jA):Option (Cf × List Fr × List Prop):=cL 100 Tryz.f48.ntmps (aC 100 (Di d)) cl (aKw j n i) (aKv ks y0 y1 m c R held xs) (sgN c) [] [] r
noncomputable def aAh:Option jA:=AE 7 0 0 (fun _=>[]) (.go (codeOf Tryz.f48)) [] (gU (BA []) 100)
noncomputable def pC:Code:=match aAh with
 | some ⟨.go (.loop L),_,_⟩=>L
 | _=>.skip
def aMg:Option jA->List Fr
 | some ⟨_,K,_⟩=>K
 | _=>[]
noncomputable def wG:Nat->List Fr
 | 0=>aMg aAh
 | j+1=>aMg (AE 7 0 0 (fun _=>[]) (.at (.exit 5)) (wG j) (Ak (.int true .i64 j) 0 0 [] 0 0 0 0 0 [] []))
theorem aUu (key ks:List Int) (d:Nat->List Int) (y0 y1:Int) (m:Nat) :
 (sgC d [.nil 9 0 .u8 5,.Jw 54] (.int false .i64 0) (d 1).length 0 ks y0 y1 m 0 0 [] (d 1) (AE 7 0 0 d (.go (codeOf Tryz.f48)) [] ((gU (BA key) 100).hint []))) =
 sh (0:Int) fun z0=>
 sh (15:Int) fun z1=>
 sh (252:Int) fun z2=>
 sh (key.getD 11 z0) fun z3=>
 sh (key.getD 12 z0) fun z4=>
 sh (key.getD 15 z0) fun z5=>
 sh (key.getD 3 z0) fun z6=>
 sh (key.getD 4 z0) fun z7=>
 sh (key.getD 7 z0) fun z8=>
 sh (key.getD 8 z0) fun z9=>
 sh (1:Nat) fun cH=>
 sh (↑(d cH).length:Int) fun cO=>
 some (.go (.loop pC),wG 0,[bG [key.getD 0 z0,key.getD 1 z0,key.getD 2 z0,cB IntKind.u8 z6 z1,cB IntKind.u8 z7 z2,key.getD 5 z0,key.getD 6 z0,cB IntKind.u8 z8 z1,cB IntKind.u8 z9 z2,key.getD 9 z0,key.getD 10 z0,cB IntKind.u8 z3 z1,cB IntKind.u8 z4 z2,key.getD 13 z0,key.getD 14 z0,cB IntKind.u8 z5 z1,key.getD 16 z0,key.getD 17 z0,key.getD 18 z0,key.getD 19 z0,key.getD 20 z0,key.getD 21 z0,key.getD 22 z0,key.getD 23 z0,key.getD 24 z0,key.getD 25 z0,key.getD 26 z0,key.getD 27 z0,key.getD 28 z0,key.getD 29 z0,key.getD 30 z0,key.getD 31 z0],[key.getD 0 z0,key.getD 1 z0,key.getD 2 z0,cB IntKind.u8 z6 z1,cB IntKind.u8 z7 z2,key.getD 5 z0,key.getD 6 z0,cB IntKind.u8 z8 z1,cB IntKind.u8 z9 z2,key.getD 9 z0,key.getD 10 z0,cB IntKind.u8 z3 z1,cB IntKind.u8 z4 z2,key.getD 13 z0,key.getD 14 z0,cB IntKind.u8 z5 z1,key.getD 16 z0,key.getD 17 z0,key.getD 18 z0,key.getD 19 z0,key.getD 20 z0,key.getD 21 z0,key.getD 22 z0,key.getD 23 z0,key.getD 24 z0,key.getD 25 z0,key.getD 26 z0,key.getD 27 z0,key.getD 28 z0,key.getD 29 z0,key.getD 30 z0,key.getD 31 z0]=[key.getD 0 z0,key.getD 1 z0,key.getD 2 z0,cB IntKind.u8 z6 z1,cB IntKind.u8 z7 z2,key.getD 5 z0,key.getD 6 z0,cB IntKind.u8 z8 z1,cB IntKind.u8 z9 z2,key.getD 9 z0,key.getD 10 z0,cB IntKind.u8 z3 z1,cB IntKind.u8 z4 z2,key.getD 13 z0,key.getD 14 z0,cB IntKind.u8 z5 z1,key.getD 16 z0,key.getD 17 z0,key.getD 18 z0,key.getD 19 z0,key.getD 20 z0,key.getD 21 z0,key.getD 22 z0,key.getD 23 z0,key.getD 24 z0,key.getD 25 z0,key.getD 26 z0,key.getD 27 z0,key.getD 28 z0,key.getD 29 z0,key.getD 30 z0,key.getD 31 z0],z0=z0,(d cH).length=(d cH).length,cO=cO,z0=z0,[key.getD 0 z0,key.getD 1 z0,key.getD 2 z0,cB IntKind.u8 z6 z1,cB IntKind.u8 z7 z2,key.getD 5 z0,key.getD 6 z0,cB IntKind.u8 z8 z1,cB IntKind.u8 z9 z2,key.getD 9 z0,key.getD 10 z0,cB IntKind.u8 z3 z1,cB IntKind.u8 z4 z2,key.getD 13 z0,key.getD 14 z0,cB IntKind.u8 z5 z1,key.getD 16 z0,key.getD 17 z0,key.getD 18 z0,key.getD 19 z0,key.getD 20 z0,key.getD 21 z0,key.getD 22 z0,key.getD 23 z0,key.getD 24 z0,key.getD 25 z0,key.getD 26 z0,key.getD 27 z0,key.getD 28 z0,key.getD 29 z0,key.getD 30 z0,key.getD 31 z0]=ks/\(38:Nat)=(38:TypeId),(0:Nat)=(0:Nat),M.nl [M.V [key.getD 0 z0,key.getD 1 z0,key.getD 2 z0,cB IntKind.u8 z6 z1,cB IntKind.u8 z7 z2,key.getD 5 z0,key.getD 6 z0,cB IntKind.u8 z8 z1],M.V [cB IntKind.u8 z9 z2,key.getD 9 z0,key.getD 10 z0,cB IntKind.u8 z3 z1,cB IntKind.u8 z4 z2,key.getD 13 z0,key.getD 14 z0,cB IntKind.u8 z5 z1]]=m,(6:Nat)=(6:Nat),[M.V [key.getD 0 z0,key.getD 1 z0,key.getD 2 z0,cB IntKind.u8 z6 z1,cB IntKind.u8 z7 z2,key.getD 5 z0,key.getD 6 z0,cB IntKind.u8 z8 z1],M.V [cB IntKind.u8 z9 z2,key.getD 9 z0,key.getD 10 z0,cB IntKind.u8 z3 z1,cB IntKind.u8 z4 z2,key.getD 13 z0,key.getD 14 z0,cB IntKind.u8 z5 z1],z0,z0,z0,z0]=[y0,y1,z0,z0,z0,z0],([]:List Int)=[],d cH=d cH]):=by kernel_rfl
def CV (c m n:Nat) (ks held pR xs:List Int) (y0 y1 R j i i':Int):List Prop:=
 [(((held++[xs.getD i.toNat 0]).length:Int)==16)=false,(held.length+[xs.getD i.toNat 0].length)*1<=140737488355328,i.toNat<xs.length,0<=i/\i<(n:Int),decide (i<(n:Int))=true,j=j,n=n,(n:Int)=(n:Int),IntKind.i64.wrap (i+1)=i',ks=ks/\(38:TypeId)=38,0=0,m=m,6=6,[y0,y1,0,0,0,0]=[y0,y1,0,0,0,0]] ++
 ((match c with
   | 0=>[]
   | c+1=>[0=0,M.ln R=M.ln R,c+1=c+1])++([held++[xs.getD i.toNat 0]=pR,xs=xs]++(match c with
   | 0=>[]
   | c+1=>[M.w0 R::M.w1 R::M.w2 R::List.replicate (c+1-3) 0=M.w0 R::M.w1 R::M.w2 R::List.replicate (c+1-3) 0])))
def SgA (c:Nat):Prop:=∀ (ks:List Int) (d:Nat->List Int) (y0 y1:Int) (m:Nat) (R:Int) (held pR xs:List Int) (j:Int) (n:Nat) (i i':Int),sgC d [] (.int false .i64 j) n i' ks y0 y1 m c R pR xs (AE 7 0 0 d (.go pC) [] ((Ak (.int false .i64 j) n i ks y0 y1 m c R held xs).hint [true,false]))=some (.at .normal,[],CV c m n ks held pR xs y0 y1 R j i i')
def CS (c m n:Nat) (ks held xs:List Int) (y0 y1 R j i J:Int):List Prop:=
 [decide (i<(n:Int))=false,j=J,n=n,(n:Int)=(n:Int),i=i,ks=ks/\(38:TypeId)=38,0=0,m=m,6=6,[y0,y1,0,0,0,0]=[y0,y1,0,0,0,0]] ++
 ((match c with
   | 0=>[]
   | c+1=>[0=0,M.ln R=M.ln R,c+1=c+1])++([held=held,xs=xs]++(match c with
   | 0=>[]
   | c+1=>[M.w0 R::M.w1 R::M.w2 R::List.replicate (c+1-3) 0=M.w0 R::M.w1 R::M.w2 R::List.replicate (c+1-3) 0])))
def SgX (c:Nat):Prop:=∀ (ks:List Int) (d:Nat->List Int) (y0 y1:Int) (m:Nat) (R:Int) (held xs:List Int) (j:Int) (n:Nat) (i:Int) (J:Int),sgC d [] (.int true .i64 J) n i ks y0 y1 m c R held xs (AE 7 0 0 d (.go pC) [] ((Ak (.int false .i64 j) n i ks y0 y1 m c R held xs).hint [false]))=some (.at (.exit 5),[],CS c m n ks held xs y0 y1 R j i J)
def CU (c m n:Nat) (ks held xs:List Int) (y0 y1 R j:Int):List Prop:=
 [j=j,n=n,(n:Int)=(n:Int),(0:Int)=0,ks=ks/\(38:TypeId)=38,0=0,m=m,6=6,[y0,y1,0,0,0,0]=[y0,y1,0,0,0,0]] ++
 ((match c with
   | 0=>[]
   | c+1=>[0=0,M.ln R=M.ln R,c+1=c+1])++([held=held,xs=xs]++(match c with
   | 0=>[]
   | c+1=>[M.w0 R::M.w1 R::M.w2 R::List.replicate (c+1-3) 0=M.w0 R::M.w1 R::M.w2 R::List.replicate (c+1-3) 0])))
def Dv (c J:Nat):Prop:=∀ (ks:List Int) (d:Nat->List Int) (y0 y1:Int) (m:Nat) (R:Int) (held xs:List Int) (n:Nat) (i:Int),sgC d [.Jw 54] (.int false .i64 (J+1:Nat)) (d (J+2)).length 0 ks y0 y1 m c R held (d (J+2)) (AE 7 0 0 d (.at (.exit 5)) (wG J) ((Ak (.int true .i64 J) n i ks y0 y1 m c R held xs).hint []))=some (.go (.loop pC),wG (J+1),CU c m (d (J+2)).length ks held (d (J+2)) y0 y1 R (J+1:Nat))
def CR (c:Nat) (R Y:Int):Int:=match c with
 | 0=>(0+Y)%M.aZ
 | _=>(M.n3 (M.w0 R) (M.w1 R) (M.w2 R)+Y)%M.aZ
def Vg (S y0 y1:Int):Int:=(M.n3 (M.w0 S) (M.w1 S) (M.w2 S)*(y0+18446744073709551616*y1))%M.aZ
open M in
def CT (c iK lU m n:Nat) (ks xs:List Int) (y0 y1 R R' b0 b1 b2 b3 b4 b5 b6 b7 b8 b9 dF dD dC dB dA x j i i' S:Int):List Prop:=
 [ln S=nl [w0 S,w1 S,w2 S],m=nl [y0,y1],lU=(if ln S=0\/m=0 then 0 else ln S+m+4),U (w0 S),U (w1 S),U (w2 S),n3 (w0 S) (w1 S) (w2 S)<aZ,U y0,U y1,y0+18446744073709551616*y1<21267647932558653966460912964485513216,0=0,ln S=ln S,iK=iK,0=0,m=m,6=6,w0 S::w1 S::w2 S::List.replicate (iK-3) 0=w0 S::w1 S::w2 S::List.replicate (iK-3) 0,[y0,y1,0,0,0,0]=[y0,y1,0,0,0,0]] ++
 ((match c with
   | 0=>[]
   | _=>(ln R=nl [w0 R,w1 R,w2 R])::(match iK with
     | 7=>[ln R=0]
     | _=>[ln R≠0,U (w0 R),U (w1 R),U (w2 R),n3 (w0 R) (w1 R) (w2 R)<aZ])) ++
 ([U (V [b0,b1,b2,b3,b4,b5,b6,b7]),U (V [b8,b9,dF,dD,dC,dB,dA,x]),(1:Int)=1] ++
 ((match c with
   | 0=>[]
   | c+1=>[0=0,ln R=ln R,c+1=c+1,w0 R::w1 R::w2 R::List.replicate (c+1-3) 0=w0 R::w1 R::w2 R::List.replicate (c+1-3) 0]) ++
 ([[V [b0,b1,b2,b3,b4,b5,b6,b7],V [b8,b9,dF,dD,dC,dB,dA,x],1,0,0,0,0]=[V [b0,b1,b2,b3,b4,b5,b6,b7],V [b8,b9,dF,dD,dC,dB,dA,x],1,0,0,0,0],bG [b0,b1,b2,b3,b4,b5,b6,b7,b8,b9,dF,dD,dC,dB,dA,x,1],(1:Int)=1,[b0,b1,b2,b3,b4,b5,b6,b7,b8,b9,dF,dD,dC,dB,dA].length+1+1=17,[b0,b1,b2,b3,b4,b5,b6,b7,b8,b9,dF,dD,dC,dB,dA,x,1]=[b0,b1,b2,b3,b4,b5,b6,b7,b8,b9,dF,dD,dC,dB,dA,x,1],i.toNat<xs.length,0<=i/\i<(n:Int),decide (i<(n:Int))=true,j=j,n=n,(n:Int)=(n:Int),IntKind.i64.wrap (i+1)=i',ks=ks/\(38:TypeId)=38,0=0,m=m,6=6,[y0,y1,0,0,0,0]=[y0,y1,0,0,0,0]] ++
 (match lU with
  | 0=>[([]:List Int)=[],xs=xs]
  | lU+1=>[0=0,ln (Vg S y0 y1)=ln R',lU+1=lU+1,([]:List Int)=[],xs=xs,w0 (Vg S y0 y1)::w1 (Vg S y0 y1)::w2 (Vg S y0 y1)::List.replicate (lU+1-3) 0=w0 R'::w1 R'::w2 R'::List.replicate (lU+1-3) 0])))))
def nJ (c iK lU:Nat):Prop:=∀ (ks:List Int) (d:Nat->List Int) (y0 y1:Int) (m:Nat) (R R' b0 b1 b2 b3 b4 b5 b6 b7 b8 b9 dF dD dC dB dA:Int) (xs:List Int) (j:Int) (n:Nat) (i i':Int),sgC d [.nil 9 0 .u8 5] (.int false .i64 j) n i' ks y0 y1 m lU R' [] xs (AE iK lU 0 d (.go pC) [] ((opS 100 Tryz.f48.ntmps (aC 100 (Di d)) 9 0 (Ak (.int false .i64 j) n i ks y0 y1 m c R [b0,b1,b2,b3,b4,b5,b6,b7,b8,b9,dF,dD,dC,dB,dA] xs)).hint [true])) =
 some (.at .normal,[],CT c iK lU m n ks xs y0 y1 R R' b0 b1 b2 b3 b4 b5 b6 b7 b8 b9 dF dD dC dB dA (xs.getD i.toNat 0) j i i' (CR c R (M.n3 (M.V [b0,b1,b2,b3,b4,b5,b6,b7]) (M.V [b8,b9,dF,dD,dC,dB,dA,xs.getD i.toNat 0]) 1)))
theorem aOc:SgA 0:=fun ks d y0 y1 m R held pR xs j n i i'=>by kernel_rfl
theorem aNw:SgX 0:=fun ks d y0 y1 m R held xs j n i J=>by kernel_rfl
theorem aFn:Dv 0 0:=fun ks d y0 y1 m R held xs n i=>by kernel_rfl
theorem aFm:Dv 0 1:=fun ks d y0 y1 m R held xs n i=>by kernel_rfl
theorem aFl:Dv 0 2:=fun ks d y0 y1 m R held xs n i=>by kernel_rfl
theorem aFk:Dv 0 3:=fun ks d y0 y1 m R held xs n i=>by kernel_rfl
theorem aOb:SgA 6:=fun ks d y0 y1 m R held pR xs j n i i'=>by kernel_rfl
theorem aNv:SgX 6:=fun ks d y0 y1 m R held xs j n i J=>by kernel_rfl
theorem aFj:Dv 6 0:=fun ks d y0 y1 m R held xs n i=>by kernel_rfl
theorem aFi:Dv 6 1:=fun ks d y0 y1 m R held xs n i=>by kernel_rfl
theorem aFh:Dv 6 2:=fun ks d y0 y1 m R held xs n i=>by kernel_rfl
theorem aFg:Dv 6 3:=fun ks d y0 y1 m R held xs n i=>by kernel_rfl
theorem aOa:SgA 7:=fun ks d y0 y1 m R held pR xs j n i i'=>by kernel_rfl
theorem aNu:SgX 7:=fun ks d y0 y1 m R held xs j n i J=>by kernel_rfl
theorem aFf:Dv 7 0:=fun ks d y0 y1 m R held xs n i=>by kernel_rfl
theorem aFe:Dv 7 1:=fun ks d y0 y1 m R held xs n i=>by kernel_rfl
theorem aFd:Dv 7 2:=fun ks d y0 y1 m R held xs n i=>by kernel_rfl
theorem aFc:Dv 7 3:=fun ks d y0 y1 m R held xs n i=>by kernel_rfl
theorem aNz:SgA 8:=fun ks d y0 y1 m R held pR xs j n i i'=>by kernel_rfl
theorem aNt:SgX 8:=fun ks d y0 y1 m R held xs j n i J=>by kernel_rfl
theorem aFb:Dv 8 0:=fun ks d y0 y1 m R held xs n i=>by kernel_rfl
theorem aFa:Dv 8 1:=fun ks d y0 y1 m R held xs n i=>by kernel_rfl
theorem aEz:Dv 8 2:=fun ks d y0 y1 m R held xs n i=>by kernel_rfl
theorem aEy:Dv 8 3:=fun ks d y0 y1 m R held xs n i=>by kernel_rfl
theorem aNy:SgA 9:=fun ks d y0 y1 m R held pR xs j n i i'=>by kernel_rfl
theorem aNs:SgX 9:=fun ks d y0 y1 m R held xs j n i J=>by kernel_rfl
theorem aEx:Dv 9 0:=fun ks d y0 y1 m R held xs n i=>by kernel_rfl
theorem aEw:Dv 9 1:=fun ks d y0 y1 m R held xs n i=>by kernel_rfl
theorem aEv:Dv 9 2:=fun ks d y0 y1 m R held xs n i=>by kernel_rfl
theorem aEu:Dv 9 3:=fun ks d y0 y1 m R held xs n i=>by kernel_rfl
theorem TN:nJ 0 7 0:=fun ks d y0 y1 m R R' b0 b1 b2 b3 b4 b5 b6 b7 b8 b9 dF dD dC dB dA xs j n i i'=>by kernel_rfl
theorem TM:nJ 0 7 6:=fun ks d y0 y1 m R R' b0 b1 b2 b3 b4 b5 b6 b7 b8 b9 dF dD dC dB dA xs j n i i'=>by kernel_rfl
theorem TL:nJ 0 7 7:=fun ks d y0 y1 m R R' b0 b1 b2 b3 b4 b5 b6 b7 b8 b9 dF dD dC dB dA xs j n i i'=>by kernel_rfl
theorem TK:nJ 0 7 8:=fun ks d y0 y1 m R R' b0 b1 b2 b3 b4 b5 b6 b7 b8 b9 dF dD dC dB dA xs j n i i'=>by kernel_rfl
theorem TJ:nJ 0 7 9:=fun ks d y0 y1 m R R' b0 b1 b2 b3 b4 b5 b6 b7 b8 b9 dF dD dC dB dA xs j n i i'=>by kernel_rfl
theorem TH:nJ 6 7 0:=fun ks d y0 y1 m R R' b0 b1 b2 b3 b4 b5 b6 b7 b8 b9 dF dD dC dB dA xs j n i i'=>by kernel_rfl
theorem TG:nJ 6 7 6:=fun ks d y0 y1 m R R' b0 b1 b2 b3 b4 b5 b6 b7 b8 b9 dF dD dC dB dA xs j n i i'=>by kernel_rfl
theorem TF:nJ 6 7 7:=fun ks d y0 y1 m R R' b0 b1 b2 b3 b4 b5 b6 b7 b8 b9 dF dD dC dB dA xs j n i i'=>by kernel_rfl
theorem TE:nJ 6 7 8:=fun ks d y0 y1 m R R' b0 b1 b2 b3 b4 b5 b6 b7 b8 b9 dF dD dC dB dA xs j n i i'=>by kernel_rfl
theorem TD:nJ 6 7 9:=fun ks d y0 y1 m R R' b0 b1 b2 b3 b4 b5 b6 b7 b8 b9 dF dD dC dB dA xs j n i i'=>by kernel_rfl
theorem TC:nJ 6 8 0:=fun ks d y0 y1 m R R' b0 b1 b2 b3 b4 b5 b6 b7 b8 b9 dF dD dC dB dA xs j n i i'=>by kernel_rfl
theorem TB:nJ 6 8 6:=fun ks d y0 y1 m R R' b0 b1 b2 b3 b4 b5 b6 b7 b8 b9 dF dD dC dB dA xs j n i i'=>by kernel_rfl
theorem TA:nJ 6 8 7:=fun ks d y0 y1 m R R' b0 b1 b2 b3 b4 b5 b6 b7 b8 b9 dF dD dC dB dA xs j n i i'=>by kernel_rfl
theorem SZ:nJ 6 8 8:=fun ks d y0 y1 m R R' b0 b1 b2 b3 b4 b5 b6 b7 b8 b9 dF dD dC dB dA xs j n i i'=>by kernel_rfl
theorem SY:nJ 6 8 9:=fun ks d y0 y1 m R R' b0 b1 b2 b3 b4 b5 b6 b7 b8 b9 dF dD dC dB dA xs j n i i'=>by kernel_rfl
theorem SX:nJ 7 7 0:=fun ks d y0 y1 m R R' b0 b1 b2 b3 b4 b5 b6 b7 b8 b9 dF dD dC dB dA xs j n i i'=>by kernel_rfl
theorem SW:nJ 7 7 6:=fun ks d y0 y1 m R R' b0 b1 b2 b3 b4 b5 b6 b7 b8 b9 dF dD dC dB dA xs j n i i'=>by kernel_rfl
theorem SU:nJ 7 7 7:=fun ks d y0 y1 m R R' b0 b1 b2 b3 b4 b5 b6 b7 b8 b9 dF dD dC dB dA xs j n i i'=>by kernel_rfl
theorem SS:nJ 7 7 8:=fun ks d y0 y1 m R R' b0 b1 b2 b3 b4 b5 b6 b7 b8 b9 dF dD dC dB dA xs j n i i'=>by kernel_rfl
theorem SR:nJ 7 7 9:=fun ks d y0 y1 m R R' b0 b1 b2 b3 b4 b5 b6 b7 b8 b9 dF dD dC dB dA xs j n i i'=>by kernel_rfl
theorem SQ:nJ 7 8 0:=fun ks d y0 y1 m R R' b0 b1 b2 b3 b4 b5 b6 b7 b8 b9 dF dD dC dB dA xs j n i i'=>by kernel_rfl
theorem SP:nJ 7 8 6:=fun ks d y0 y1 m R R' b0 b1 b2 b3 b4 b5 b6 b7 b8 b9 dF dD dC dB dA xs j n i i'=>by kernel_rfl
theorem SO:nJ 7 8 7:=fun ks d y0 y1 m R R' b0 b1 b2 b3 b4 b5 b6 b7 b8 b9 dF dD dC dB dA xs j n i i'=>by kernel_rfl
theorem SN:nJ 7 8 8:=fun ks d y0 y1 m R R' b0 b1 b2 b3 b4 b5 b6 b7 b8 b9 dF dD dC dB dA xs j n i i'=>by kernel_rfl
theorem SM:nJ 7 8 9:=fun ks d y0 y1 m R R' b0 b1 b2 b3 b4 b5 b6 b7 b8 b9 dF dD dC dB dA xs j n i i'=>by kernel_rfl
theorem SL:nJ 8 7 0:=fun ks d y0 y1 m R R' b0 b1 b2 b3 b4 b5 b6 b7 b8 b9 dF dD dC dB dA xs j n i i'=>by kernel_rfl
theorem SK:nJ 8 7 6:=fun ks d y0 y1 m R R' b0 b1 b2 b3 b4 b5 b6 b7 b8 b9 dF dD dC dB dA xs j n i i'=>by kernel_rfl
theorem SJ:nJ 8 7 7:=fun ks d y0 y1 m R R' b0 b1 b2 b3 b4 b5 b6 b7 b8 b9 dF dD dC dB dA xs j n i i'=>by kernel_rfl
theorem SI:nJ 8 7 8:=fun ks d y0 y1 m R R' b0 b1 b2 b3 b4 b5 b6 b7 b8 b9 dF dD dC dB dA xs j n i i'=>by kernel_rfl
theorem SH:nJ 8 7 9:=fun ks d y0 y1 m R R' b0 b1 b2 b3 b4 b5 b6 b7 b8 b9 dF dD dC dB dA xs j n i i'=>by kernel_rfl
theorem SG:nJ 8 8 0:=fun ks d y0 y1 m R R' b0 b1 b2 b3 b4 b5 b6 b7 b8 b9 dF dD dC dB dA xs j n i i'=>by kernel_rfl
theorem SF:nJ 8 8 6:=fun ks d y0 y1 m R R' b0 b1 b2 b3 b4 b5 b6 b7 b8 b9 dF dD dC dB dA xs j n i i'=>by kernel_rfl
theorem SE:nJ 8 8 7:=fun ks d y0 y1 m R R' b0 b1 b2 b3 b4 b5 b6 b7 b8 b9 dF dD dC dB dA xs j n i i'=>by kernel_rfl
theorem SD:nJ 8 8 8:=fun ks d y0 y1 m R R' b0 b1 b2 b3 b4 b5 b6 b7 b8 b9 dF dD dC dB dA xs j n i i'=>by kernel_rfl
theorem SC:nJ 8 8 9:=fun ks d y0 y1 m R R' b0 b1 b2 b3 b4 b5 b6 b7 b8 b9 dF dD dC dB dA xs j n i i'=>by kernel_rfl
theorem SA:nJ 9 7 0:=fun ks d y0 y1 m R R' b0 b1 b2 b3 b4 b5 b6 b7 b8 b9 dF dD dC dB dA xs j n i i'=>by kernel_rfl
theorem RZ:nJ 9 7 6:=fun ks d y0 y1 m R R' b0 b1 b2 b3 b4 b5 b6 b7 b8 b9 dF dD dC dB dA xs j n i i'=>by kernel_rfl
theorem RY:nJ 9 7 7:=fun ks d y0 y1 m R R' b0 b1 b2 b3 b4 b5 b6 b7 b8 b9 dF dD dC dB dA xs j n i i'=>by kernel_rfl
theorem RX:nJ 9 7 8:=fun ks d y0 y1 m R R' b0 b1 b2 b3 b4 b5 b6 b7 b8 b9 dF dD dC dB dA xs j n i i'=>by kernel_rfl
theorem RW:nJ 9 7 9:=fun ks d y0 y1 m R R' b0 b1 b2 b3 b4 b5 b6 b7 b8 b9 dF dD dC dB dA xs j n i i'=>by kernel_rfl
theorem RV:nJ 9 8 0:=fun ks d y0 y1 m R R' b0 b1 b2 b3 b4 b5 b6 b7 b8 b9 dF dD dC dB dA xs j n i i'=>by kernel_rfl
theorem RU:nJ 9 8 6:=fun ks d y0 y1 m R R' b0 b1 b2 b3 b4 b5 b6 b7 b8 b9 dF dD dC dB dA xs j n i i'=>by kernel_rfl
theorem RT:nJ 9 8 7:=fun ks d y0 y1 m R R' b0 b1 b2 b3 b4 b5 b6 b7 b8 b9 dF dD dC dB dA xs j n i i'=>by kernel_rfl
theorem RS:nJ 9 8 8:=fun ks d y0 y1 m R R' b0 b1 b2 b3 b4 b5 b6 b7 b8 b9 dF dD dC dB dA xs j n i i'=>by kernel_rfl
theorem RR:nJ 9 8 9:=fun ks d y0 y1 m R R' b0 b1 b2 b3 b4 b5 b6 b7 b8 b9 dF dD dC dB dA xs j n i i'=>by kernel_rfl
namespace M
theorem Tk {x:Int} (h:Bt x):cB .u8 x 15=(IntKind.i64.wrap x).tmod 16:=by
 have key:∀ n:Fin 256,cB .u8 ((n.val:Nat):Int) 15=(IntKind.i64.wrap ((n.val:Nat):Int)).tmod 16:=by decide +kernel
 obtain ⟨h0,h1⟩:=h
 have:=key ⟨x.toNat,by omega⟩
 simpa [Int.toNat_of_nonneg h0] using this
theorem Qo {x:Int} (h:Bt x):cB .u8 x 252=IntKind.i64.wrap (IntKind.i64.wrap x-(IntKind.i64.wrap x).tmod 4):=by
 have key:∀ n:Fin 256,cB .u8 ((n.val:Nat):Int) 252=IntKind.i64.wrap (IntKind.i64.wrap ((n.val:Nat):Int)-(IntKind.i64.wrap ((n.val:Nat):Int)).tmod 4):=by decide +kernel
 obtain ⟨h0,h1⟩:=h
 have:=key ⟨x.toNat,by omega⟩
 simpa [Int.toNat_of_nonneg h0] using this
theorem Cr {x:Int} (h:Bt x):0<=cB .u8 x 15/\cB .u8 x 15<=15:=by
 have key:∀ n:Fin 256,0<=cB .u8 ((n.val:Nat):Int) 15/\cB .u8 ((n.val:Nat):Int) 15<=15:=by decide +kernel
 obtain ⟨h0,h1⟩:=h
 have:=key ⟨x.toNat,by omega⟩
 simpa [Int.toNat_of_nonneg h0] using this
theorem xU {x:Int} (h:Bt x):0<=cB .u8 x 252/\cB .u8 x 252<=255:=by
 have key:∀ n:Fin 256,0<=cB .u8 ((n.val:Nat):Int) 252/\cB .u8 ((n.val:Nat):Int) 252<=255:=by decide +kernel
 obtain ⟨h0,h1⟩:=h
 have:=key ⟨x.toNat,by omega⟩
 simpa [Int.toNat_of_nonneg h0] using this
theorem pE {x:Int} (h:Bt x):IntKind.i64.wrap x=x:=by
 obtain ⟨h0,h1⟩:=h
 exact IntWalk.i64_in _ ⟨by omega,by omega⟩
def vT (k:List Int):Int:=V [k.getD 0 0,k.getD 1 0,k.getD 2 0,cB .u8 (k.getD 3 0) 15,cB .u8 (k.getD 4 0) 252,k.getD 5 0,k.getD 6 0,cB .u8 (k.getD 7 0) 15]
def tK (k:List Int):Int:=V [cB .u8 (k.getD 8 0) 252,k.getD 9 0,k.getD 10 0,cB .u8 (k.getD 11 0) 15,cB .u8 (k.getD 12 0) 252,k.getD 13 0,k.getD 14 0,cB .u8 (k.getD 15 0) 15]
def kS (k:List Int):List Int:=[k.getD 0 0,k.getD 1 0,k.getD 2 0,cB .u8 (k.getD 3 0) 15,cB .u8 (k.getD 4 0) 252,k.getD 5 0,k.getD 6 0,cB .u8 (k.getD 7 0) 15,cB .u8 (k.getD 8 0) 252,k.getD 9 0,k.getD 10 0,cB .u8 (k.getD 11 0) 15,cB .u8 (k.getD 12 0) 252,k.getD 13 0,k.getD 14 0,cB .u8 (k.getD 15 0) 15,k.getD 16 0,k.getD 17 0,k.getD 18 0,k.getD 19 0,k.getD 20 0,k.getD 21 0,k.getD 22 0,k.getD 23 0,k.getD 24 0,k.getD 25 0,k.getD 26 0,k.getD 27 0,k.getD 28 0,k.getD 29 0,k.getD 30 0,k.getD 31 0]
def Aa (k:List Int):Int:=V [k.getD 16 0,k.getD 17 0,k.getD 18 0,k.getD 19 0,k.getD 20 0,k.getD 21 0,k.getD 22 0,k.getD 23 0]
def Df (k:List Int):Int:=V [k.getD 24 0,k.getD 25 0,k.getD 26 0,k.getD 27 0,k.getD 28 0,k.getD 29 0,k.getD 30 0,k.getD 31 0]
theorem bG.Pa:bG []:=fun _ h=>by cases h
theorem bG.bM {x:Int} {r:List Int} (h:Bt x) (hr:bG r):bG (x::r):=fun y hy=>by
 rcases List.mem_cons.1 hy with rfl | hy
 .exact h
 .exact hr y hy
theorem PM {k:List Int} (h:bG k) (i:Nat):Bt (cB .u8 (k.getD i 0) 15):=by have:=Cr (h.get i);exact ⟨by omega,by omega⟩
theorem Wr {k:List Int} (h:bG k) (i:Nat):Bt (cB .u8 (k.getD i 0) 252):=by have:=xU (h.get i);exact ⟨by omega,by omega⟩
theorem GZ {k:List Int} (h:bG k):bG (kS k):=
 bG.bM (h.get 0) (bG.bM (h.get 1) (bG.bM (h.get 2) (bG.bM (PM h 3) (bG.bM (Wr h 4) (bG.bM (h.get 5) (bG.bM (h.get 6) (bG.bM (PM h 7) (bG.bM (Wr h 8) (bG.bM (h.get 9) (bG.bM (h.get 10) (bG.bM (PM h 11) (bG.bM (Wr h 12) (bG.bM (h.get 13) (bG.bM (h.get 14) (bG.bM (PM h 15) (bG.bM (h.get 16) (bG.bM (h.get 17) (bG.bM (h.get 18) (bG.bM (h.get 19) (bG.bM (h.get 20) (bG.bM (h.get 21) (bG.bM (h.get 22) (bG.bM (h.get 23) (bG.bM (h.get 24) (bG.bM (h.get 25) (bG.bM (h.get 26) (bG.bM (h.get 27) (bG.bM (h.get 28) (bG.bM (h.get 29) (bG.bM (h.get 30) (bG.bM (h.get 31) bG.Pa)))))))))))))))))))))))))))))))
theorem Wt {l:List Int} (h:bG l) (hl:l.length=8):U (V l):=by
 obtain ⟨a,b,c,d,e,f,g,k,rfl⟩:∃ a b c d e f g k,l=[a,b,c,d,e,f,g,k]:=by
  match l,hl with
  | [a,b,c,d,e,f,g,k],_=>exact ⟨a,b,c,d,e,f,g,k,rfl⟩
 have q:∀ x∈[a,b,c,d,e,f,g,k],0<=x/\x<256:=h
 have:=q a (by simp);have:=q b (by simp);have:=q c (by simp);have:=q d (by simp);have:=q e (by simp);have:=q f (by simp);have:=q g (by simp);have:=q k (by simp)
 simp only [By,Tl]
 unfold U
 omega
theorem aXk {k:List Int} (h:bG k):U (vT k)/\U (tK k)/\vT k+18446744073709551616*tK k<21267647932558653966460912964485513216:=by
 have u1:U (vT k):=Wt (bG.bM (h.get 0) (bG.bM (h.get 1) (bG.bM (h.get 2) (bG.bM (PM h 3) (bG.bM (Wr h 4) (bG.bM (h.get 5) (bG.bM (h.get 6) (bG.bM (PM h 7) bG.Pa)))))))) rfl
 have u2:U (tK k):=Wt (bG.bM (Wr h 8) (bG.bM (h.get 9) (bG.bM (h.get 10) (bG.bM (PM h 11) (bG.bM (Wr h 12) (bG.bM (h.get 13) (bG.bM (h.get 14) (bG.bM (PM h 15) bG.Pa)))))))) rfl
 refine ⟨u1,u2,?_⟩
 have b1:tK k<1152921504606846976:=by
  unfold tK
  simp only [By,Tl]
  have PM:=Cr (h.get 15)
  have:=h.get 9;have:=h.get 10;have:=h.get 13;have:=h.get 14
  have:=Cr (h.get 11);have:=xU (h.get 12);have:=xU (h.get 8)
  unfold Bt at *
  omega
 unfold U at u1
 omega
theorem aXj {k:List Int} (h:bG k):U (Aa k)/\U (Df k):=
 ⟨Wt (bG.bM (h.get 16) (bG.bM (h.get 17) (bG.bM (h.get 18) (bG.bM (h.get 19) (bG.bM (h.get 20) (bG.bM (h.get 21) (bG.bM (h.get 22) (bG.bM (h.get 23) bG.Pa)))))))) rfl,Wt (bG.bM (h.get 24) (bG.bM (h.get 25) (bG.bM (h.get 26) (bG.bM (h.get 27) (bG.bM (h.get 28) (bG.bM (h.get 29) (bG.bM (h.get 30) (bG.bM (h.get 31) bG.Pa)))))))) rfl⟩
theorem bCd {k:List Int} (h:bG k):V (cl k)=vT k+18446744073709551616*tK k:=by
 unfold cl
 rw [Cs]
 have z:V [0]=0:=by decide
 rw [z,Int.mul_zero,Int.add_zero]
 have e:lB (lo k)=[k.getD 0 0,k.getD 1 0,k.getD 2 0,cB .u8 (k.getD 3 0) 15,cB .u8 (k.getD 4 0) 252,k.getD 5 0,k.getD 6 0,cB .u8 (k.getD 7 0) 15,cB .u8 (k.getD 8 0) 252,k.getD 9 0,k.getD 10 0,cB .u8 (k.getD 11 0) 15,cB .u8 (k.getD 12 0) 252,k.getD 13 0,k.getD 14 0,cB .u8 (k.getD 15 0) 15]:=by
  rw [Tk (h.get 3),Tk (h.get 7),Tk (h.get 11),Tk (h.get 15),Qo (h.get 4),Qo (h.get 8),Qo (h.get 12)]
  have w0:=pE (h.get 0);have w1:=pE (h.get 1);have w2:=pE (h.get 2)
  have w5:=pE (h.get 5);have w6:=pE (h.get 6);have w9:=pE (h.get 9)
  have w10:=pE (h.get 10);have w13:=pE (h.get 13);have w14:=pE (h.get 14)
  have l:lB (lo k)=[IntKind.i64.wrap (k.getD 0 0),IntKind.i64.wrap (k.getD 1 0),IntKind.i64.wrap (k.getD 2 0),(IntKind.i64.wrap (k.getD 3 0)).tmod 16,IntKind.i64.wrap (IntKind.i64.wrap (k.getD 4 0)-(IntKind.i64.wrap (k.getD 4 0)).tmod 4),IntKind.i64.wrap (k.getD 5 0),IntKind.i64.wrap (k.getD 6 0),(IntKind.i64.wrap (k.getD 7 0)).tmod 16,IntKind.i64.wrap (IntKind.i64.wrap (k.getD 8 0)-(IntKind.i64.wrap (k.getD 8 0)).tmod 4),IntKind.i64.wrap (k.getD 9 0),IntKind.i64.wrap (k.getD 10 0),(IntKind.i64.wrap (k.getD 11 0)).tmod 16,IntKind.i64.wrap (IntKind.i64.wrap (k.getD 12 0)-(IntKind.i64.wrap (k.getD 12 0)).tmod 4),IntKind.i64.wrap (k.getD 13 0),IntKind.i64.wrap (k.getD 14 0),(IntKind.i64.wrap (k.getD 15 0)).tmod 16]:=rfl
  rw [l,w0,w1,w2,w5,w6,w9,w10,w13,w14]
 rw [e,aMr]
 rfl
theorem bCb (k:List Int):V (hi k)=Aa k+18446744073709551616*Df k:=by
 have e:hi k=[k.getD 16 0,k.getD 17 0,k.getD 18 0,k.getD 19 0,k.getD 20 0,k.getD 21 0,k.getD 22 0,k.getD 23 0,k.getD 24 0,k.getD 25 0,k.getD 26 0,k.getD 27 0,k.getD 28 0,k.getD 29 0,k.getD 30 0,k.getD 31 0]:=rfl
 rw [e,aMr]
 rfl
theorem aHr {k:List Int} (h:bG k):bG (hi k):=by
 intro x hx
 simp only [hi,List.mem_map] at hx
 obtain ⟨j,_,rfl⟩:=hx
 exact h.get _
def held (D:List Int) (t:Nat):List Int:=(List.range (t%16)).map fun j=>D.getD (16*(t/16)+j) 0
theorem Nu (D:List Int) (t:Nat):(held D t).length=t%16:=by simp [held]
theorem Ya (D:List Int) {t:Nat} (h:t%16<15):held D t++[D.getD t 0]=held D (t+1):=by
 unfold held
 have e1:(t+1)%16=t%16+1:=by omega
 have e2:(t+1)/16=t/16:=by omega
 have e3:16*(t/16)+t%16=t:=by omega
 rw [e1,e2,List.range_succ,List.map_append,List.map_singleton,e3]
theorem WC (D:List Int) {t:Nat} (h:t%16=15):held D t=[D.getD (16*(t/16)) 0,D.getD (16*(t/16)+1) 0,D.getD (16*(t/16)+2) 0,D.getD (16*(t/16)+3) 0,D.getD (16*(t/16)+4) 0,D.getD (16*(t/16)+5) 0,D.getD (16*(t/16)+6) 0,D.getD (16*(t/16)+7) 0,D.getD (16*(t/16)+8) 0,D.getD (16*(t/16)+9) 0,D.getD (16*(t/16)+10) 0,D.getD (16*(t/16)+11) 0,D.getD (16*(t/16)+12) 0,D.getD (16*(t/16)+13) 0,D.getD (16*(t/16)+14) 0]:=by
 unfold held;rw [h];rfl
theorem HB (D:List Int) {t:Nat} (h:t%16=0):held D t=[]:=by unfold held;rw [h];rfl
theorem aKc (D:List Int) {k:Nat} (h:16*k+16<=1073741824):bB D ((16*k:Nat):Int) 16=[D.getD (16*k) 0,D.getD (16*k+1) 0,D.getD (16*k+2) 0,D.getD (16*k+3) 0,D.getD (16*k+4) 0,D.getD (16*k+5) 0,D.getD (16*k+6) 0,D.getD (16*k+7) 0,D.getD (16*k+8) 0,D.getD (16*k+9) 0,D.getD (16*k+10) 0,D.getD (16*k+11) 0,D.getD (16*k+12) 0,D.getD (16*k+13) 0,D.getD (16*k+14) 0,D.getD (16*k+15) 0,1]:=by
 have e:bB D ((16*k:Nat):Int) 16=((List.range 16).map fun j:Nat=>D.getD (16*k+j) 0)++[1]:=by
  unfold bB
  congr 1
  refine List.map_congr_left fun j hj=>?_
  have hj:j<16:=by simpa using hj
  rw [IntWalk.i64_in _ ⟨by omega,by omega⟩]
  congr 1
 rw [e];rfl
theorem NC (r:Int) {D:List Int} {k:Nat} (h:16*k+16<=D.length):acc r D (k+1)=((acc r D k+V (bB D ((16*k:Nat):Int) 16))*r)%p:=by
 show ((acc r D k+V (bB D (16*(k:Int)) (min 16 (D.length-16*k))))*r)%p=_
 rw [show min 16 (D.length-16*k)=16 from by omega,show (16*(k:Int))=((16*k:Nat):Int) from by omega]
theorem Kq {R:Int} (h0:0<=R) (h:R<aZ):n3 (w0 R) (w1 R) (w2 R)=R:=by
 unfold n3 w0 w1 w2;unfold aZ at h;omega
theorem PS (R:Int):U (w0 R)/\U (w1 R)/\U (w2 R):=by unfold U w0 w1 w2;omega
theorem UI:aZ=p:=rfl
theorem Ih (x:Int):0<=x%aZ/\x%aZ<aZ:=⟨Int.emod_nonneg _ (by decide),Int.emod_lt_of_pos _ (by decide)⟩
theorem step_eq {R Y S y0 y1:Int} (hS:S=(R+Y)%aZ):(n3 (w0 S) (w1 S) (w2 S)*(y0+18446744073709551616*y1))%aZ=((R+Y)*(y0+18446744073709551616*y1))%p:=by
 obtain ⟨h0,h1⟩:=Ih (R+Y)
 rw [<- hS] at h0 h1
 rw [Kq h0 h1,hS,UI,Int.mul_emod,Int.emod_emod_of_dvd _ (Int.dvd_refl p),<- Int.mul_emod]
def cat (d:Nat->List Int):List Int:=d 1++(d 2++(d 3++(d 4++d 5)))
def off (d:Nat->List Int):Nat->Nat
 | 0=>0
 | j+1=>off d j+(d (j+1)).length
theorem aAu (d:Nat->List Int):off d 5=(cat d).length:=by simp [off,cat];omega
theorem YK (d:Nat->List Int) {J i:Nat} (hJ:J<5) (hi:i<(d (J+1)).length):(cat d).getD (off d J+i) 0=(d (J+1)).getD i 0:=by
 have L:∀ (a b:List Int) (n:Nat),n<a.length->(a++b).getD n 0=a.getD n 0:=fun a b n h=>by simp [List.getD_eq_getElem?_getD,List.getElem?_append_left h]
 have R:∀ (a b:List Int) (n:Nat),(a++b).getD (a.length+n) 0=b.getD n 0:=fun a b n=>by simp [List.getD_eq_getElem?_getD,List.getElem?_append_right]
 unfold cat
 match J,hJ with
 | 0,_=>rw [show off d 0+i=i from by simp [off],L _ _ _ hi]
 | 1,_=>rw [show off d 1+i=(d 1).length+i from by simp [off],R,L _ _ _ hi]
 | 2,_=>rw [show off d 2+i=(d 1).length+((d 2).length+i) from by simp [off];omega,R,R,L _ _ _ hi]
 | 3,_=>rw [show off d 3+i=(d 1).length+((d 2).length+((d 3).length+i)) from by simp [off];omega,R,R,R,L _ _ _ hi]
 | 4,_=>rw [show off d 4+i=(d 1).length+((d 2).length+((d 3).length+((d 4).length+i))) from by simp [off];omega,R,R,R,R]
theorem aGo (d:Nat->List Int) {J:Nat} (hJ:J<5):off d J+(d (J+1)).length<=(cat d).length:=by
 rw [<- aAu]
 match J,hJ with
 | 0,_=>simp only [off];omega
 | 1,_=>simp only [off];omega
 | 2,_=>simp only [off];omega
 | 3,_=>simp only [off];omega
 | 4,_=>simp only [off];omega
theorem aGq (N:Int) {j:Nat} (h:j<16):nb (w0 N+18446744073709551616*w1 N) j=nb N j:=by
 have e:w0 N+18446744073709551616*w1 N=N%340282366920938463463374607431768211456:=by unfold w0 w1;omega
 rw [e]
 unfold nb
 have hk:∀ k:Nat,k<16->(256:Int)^16=256^k*(256*256^(15-k)):=fun k hk=>by
  have:(256:Int)^16=256^(k+(1+(15-k))):=by congr 1;omega
  rw [this,Int.pow_add,Int.pow_add];rfl
 have hP:(0:Int)<256^j:=Int.pow_pos (by decide)
 have e1:(340282366920938463463374607431768211456:Int)=256^j*(256*256^(15-j)):=by
  rw [<- hk j h];decide
 rw [e1]
 generalize (256:Int)^j=P at *
 generalize (256:Int)^(15-j)=Q
 have e2:N=N%(P*(256*Q))+P*(256*Q)*(N/(P*(256*Q))):=(Int.emod_add_mul_ediv N _).symm
 have e3:N/P=N%(P*(256*Q))/P+256*Q*(N/(P*(256*Q))):=by
  conv=>lhs;rw [e2,Int.mul_assoc,Int.add_mul_ediv_left _ _ (by omega)]
 rw [e3,Int.mul_assoc,Int.add_mul_emod_self_left]
theorem aEd {key D:List Int} (hk:bG key) (hD:D.length%16=0) :
 tag key D=(List.range 16).map (nb (w0 (acc (V (cl key)) D (D.length/16)+(Aa key+18446744073709551616*Df key))+18446744073709551616*w1 (acc (V (cl key)) D (D.length/16)+(Aa key+18446744073709551616*Df key)))):=by
 unfold tag
 rw [RN (aHr hk),show (D.length+15)/16=D.length/16 from by omega,<- bCb key]
 have e:vs (fun j=>(hi key).getD j 0) 16=V (hi key):=Ay (hi key) 16 (by simp [hi])
 rw [e]
 refine List.map_congr_left fun j hj=>?_
 have hj:j<16:=by simpa using hj
 rw [aGq _ hj]
end M
theorem G.Ep {P:Program} {Γ Γ':Env} (hg:Γ'.aU=Γ.aU) {w0:World} {M:Nat->Prop} {B:bA} {N F0:Nat} {V0:bF} {cf:Cf} {K:List Fr} {s:St} {Q:Exit->Act->World->Prop} (h:G P Γ' w0 M B N F0 V0 cf K s Q):G P Γ w0 M B N F0 V0 cf K s Q:=
 fun V a w hi=>h V a w ⟨hi.tmp,hi.keys,hi.size,hi.defers,hi.fM,fun n l e=>hi.aU n l (hg ▸ e),hi.top,hi.le,hi.low,hi.ch,hi.nx,hi.hi⟩
theorem mU.Ep {Γ Γ':Env} (hg:Γ'.aU=Γ.aU) {B:bA} {F0:Nat} {V0:bF} (h:mU Γ B F0 V0):mU Γ' B F0 V0:=⟨h.top,fun n l e=>h.aU n l (hg ▸ e),h.cut,h.cells⟩
def C5 (c:Nat):Prop:=c=0\/c=6\/c=7\/c=8\/c=9
theorem sV (iK lU sI:Nat):cG Tryz.prog (ΓT iK lU sI):=bH _ 22
theorem sW (iK lU sI:Nat):bX Tryz.prog (ΓT iK lU sI):=bJ _ (aIq iK lU sI) 22
theorem oK (a b c a' b' c':Nat):(ΓT a b c).aU=(ΓT a' b' c').aU:=by kernel_rfl
theorem aFv {c:Nat} (hc:C5 c):SgA c:=by
 rcases hc with rfl | rfl | rfl | rfl | rfl
 .exact aOc
 .exact aOb
 .exact aOa
 .exact aNz
 .exact aNy
theorem aFs {c:Nat} (hc:C5 c):SgX c:=by
 rcases hc with rfl | rfl | rfl | rfl | rfl
 .exact aNw
 .exact aNv
 .exact aNu
 .exact aNt
 .exact aNs
theorem aFu {c J:Nat} (hc:C5 c) (hJ:J<4):Dv c J:=by
 obtain rfl | rfl | rfl | rfl:J=0\/J=1\/J=2\/J=3:=by omega
 .rcases hc with rfl | rfl | rfl | rfl | rfl
  .exact aFn
  .exact aFj
  .exact aFf
  .exact aFb
  .exact aEx
 .rcases hc with rfl | rfl | rfl | rfl | rfl
  .exact aFm
  .exact aFi
  .exact aFe
  .exact aFa
  .exact aEw
 .rcases hc with rfl | rfl | rfl | rfl | rfl
  .exact aFl
  .exact aFh
  .exact aFd
  .exact aEz
  .exact aEv
 .rcases hc with rfl | rfl | rfl | rfl | rfl
  .exact aFk
  .exact aFg
  .exact aFc
  .exact aEy
  .exact aEu
theorem aFt {c iK lU:Nat} (hc:C5 c) (Ee:iK=7\/(iK=8/\c≠0)) (Aq:C5 lU):nJ c iK lU:=by
 rcases hc with rfl | rfl | rfl | rfl | rfl
 .rcases Ee with rfl | ⟨rfl,dP⟩
  .rcases Aq with rfl | rfl | rfl | rfl | rfl
   .exact TN
   .exact TM
   .exact TL
   .exact TK
   .exact TJ
  .exact (dP rfl).elim
 .rcases Ee with rfl | ⟨rfl,dP⟩
  .rcases Aq with rfl | rfl | rfl | rfl | rfl
   .exact TH
   .exact TG
   .exact TF
   .exact TE
   .exact TD
  .rcases Aq with rfl | rfl | rfl | rfl | rfl
   .exact TC
   .exact TB
   .exact TA
   .exact SZ
   .exact SY
 .rcases Ee with rfl | ⟨rfl,dP⟩
  .rcases Aq with rfl | rfl | rfl | rfl | rfl
   .exact SX
   .exact SW
   .exact SU
   .exact SS
   .exact SR
  .rcases Aq with rfl | rfl | rfl | rfl | rfl
   .exact SQ
   .exact SP
   .exact SO
   .exact SN
   .exact SM
 .rcases Ee with rfl | ⟨rfl,dP⟩
  .rcases Aq with rfl | rfl | rfl | rfl | rfl
   .exact SL
   .exact SK
   .exact SJ
   .exact SI
   .exact SH
  .rcases Aq with rfl | rfl | rfl | rfl | rfl
   .exact SG
   .exact SF
   .exact SE
   .exact SD
   .exact SC
 .rcases Ee with rfl | ⟨rfl,dP⟩
  .rcases Aq with rfl | rfl | rfl | rfl | rfl
   .exact SA
   .exact RZ
   .exact RY
   .exact RX
   .exact RW
  .rcases Aq with rfl | rfl | rfl | rfl | rfl
   .exact RV
   .exact RU
   .exact RT
   .exact RS
   .exact RR
theorem HY {c m n:Nat} {ks held pR xs:List Int} {y0 y1 R j i':Int} {i:Nat} (hh:held.length<15) (hi:i<n) (hn:n=xs.length) (hl:n<=1073741824) (h':held++[xs.getD i 0]=pR) (fZ:i'=((i+1:Nat):Int)) :
 ∀ q∈CV c m n ks held pR xs y0 y1 R j (i:Int) i',q:=by
 have e1:IntKind.i64.wrap ((i:Int)+1)=i':=by rw [fZ,IntWalk.i64_in _ ⟨by omega,by omega⟩];omega
 have e2:((((held++[xs.getD i 0]).length:Int)==16)=false):=by
  rw [List.length_append,List.length_singleton]
  exact beq_eq_false_iff_ne.2 (by omega)
 have e3:(held.length+[xs.getD i 0].length)*1<=140737488355328:=by simp only [List.length_singleton];omega
 have e4:i<xs.length:=by omega
 have e5:(0:Int)<=(i:Int)/\(i:Int)<(n:Int):=by omega
 have e6:decide ((i:Int)<(n:Int))=true:=decide_eq_true e5.2
 refine aA ?_
 unfold CV
 rw [Int.toNat_natCast]
 cases c with
 | zero=>exact ⟨e2,e3,e4,e5,e6,rfl,rfl,rfl,e1,⟨rfl,rfl⟩,rfl,rfl,rfl,rfl,h',rfl,trivial⟩
 | succ c=>exact ⟨e2,e3,e4,e5,e6,rfl,rfl,rfl,e1,⟨rfl,rfl⟩,rfl,rfl,rfl,rfl,rfl,rfl,rfl,h',rfl,rfl,trivial⟩
theorem HV {c m n:Nat} {ks held xs:List Int} {y0 y1 R j i J:Int} (hi:i=(n:Int)) (hj:j=J):∀ q∈CS c m n ks held xs y0 y1 R j i J,q:=by
 have e1:decide (i<(n:Int))=false:=decide_eq_false (by omega)
 refine aA ?_
 unfold CS
 cases c with
 | zero=>exact ⟨e1,hj,rfl,rfl,rfl,⟨rfl,rfl⟩,rfl,rfl,rfl,rfl,rfl,rfl,trivial⟩
 | succ c=>exact ⟨e1,hj,rfl,rfl,rfl,⟨rfl,rfl⟩,rfl,rfl,rfl,rfl,rfl,rfl,rfl,rfl,rfl,rfl,trivial⟩
theorem HX {c m n:Nat} {ks held xs:List Int} {y0 y1 R j:Int}:∀ q∈CU c m n ks held xs y0 y1 R j,q:=by
 refine aA ?_
 unfold CU
 cases c with
 | zero=>exact ⟨rfl,rfl,rfl,rfl,⟨rfl,rfl⟩,rfl,rfl,rfl,rfl,rfl,rfl,trivial⟩
 | succ c=>exact ⟨rfl,rfl,rfl,rfl,⟨rfl,rfl⟩,rfl,rfl,rfl,rfl,rfl,rfl,rfl,rfl,rfl,rfl,trivial⟩
open M in
theorem HW {c iK lU m n:Nat} {ks xs:List Int} {y0 y1 R R' b0 b1 b2 b3 b4 b5 b6 b7 b8 b9 dF dD dC dB dA x j i' S:Int} {i:Nat} (hS:0<=S/\S<aZ) (hm:m=nl [y0,y1]) (Aq:lU=if ln S=0\/m=0 then 0 else ln S+m+4)
 (fC:U y0) (iJ:U y1) (hy:y0+18446744073709551616*y1<21267647932558653966460912964485513216) (Ee:iK=7/\(c≠0->ln R=0)\/iK=8/\ln R≠0) (hR:0<=R/\R<aZ)
 (hb:bG [b0,b1,b2,b3,b4,b5,b6,b7,b8,b9,dF,dD,dC,dB,dA,x,1]) (hi:i<n) (hn:n=xs.length) (hl:n<=1073741824) (fZ:i'=((i+1:Nat):Int)) (hR':R'=Vg S y0 y1) :
 ∀ q∈CT c iK lU m n ks xs y0 y1 R R' b0 b1 b2 b3 b4 b5 b6 b7 b8 b9 dF dD dC dB dA x j (i:Int) i' S,q:=by
 have e1:IntKind.i64.wrap ((i:Int)+1)=i':=by rw [fZ,IntWalk.i64_in _ ⟨by omega,by omega⟩];omega
 have e4:i<xs.length:=by omega
 have e5:(0:Int)<=(i:Int)/\(i:Int)<(n:Int):=by omega
 have e6:decide ((i:Int)<(n:Int))=true:=decide_eq_true e5.2
 have u:=PS S
 have v:=PS R
 have s1:n3 (w0 S) (w1 S) (w2 S)<aZ:=by rw [Kq hS.1 hS.2];exact hS.2
 have r1:n3 (w0 R) (w1 R) (w2 R)<aZ:=by rw [Kq hR.1 hR.2];exact hR.2
 have v0:U (V [b0,b1,b2,b3,b4,b5,b6,b7]):=Wt (bG.bM (hb b0 (by simp)) (bG.bM (hb b1 (by simp)) (bG.bM (hb b2 (by simp)) (bG.bM (hb b3 (by simp)) (bG.bM (hb b4 (by simp)) (bG.bM (hb b5 (by simp)) (bG.bM (hb b6 (by simp)) (bG.bM (hb b7 (by simp)) bG.Pa)))))))) rfl
 have v1:U (V [b8,b9,dF,dD,dC,dB,dA,x]):=Wt (bG.bM (hb b8 (by simp)) (bG.bM (hb b9 (by simp)) (bG.bM (hb dF (by simp)) (bG.bM (hb dD (by simp)) (bG.bM (hb dC (by simp)) (bG.bM (hb dB (by simp)) (bG.bM (hb dA (by simp)) (bG.bM (hb x (by simp)) bG.Pa)))))))) rfl
 subst hR'
 unfold CT
 rw [Int.toNat_natCast]
 intro q hq
 rcases List.mem_append.1 hq with hq | hq
 .exact aA (l:=[ln S=nl [w0 S,w1 S,w2 S],m=nl [y0,y1],lU=(if ln S=0\/m=0 then 0 else ln S+m+4),U (w0 S),U (w1 S),U (w2 S),n3 (w0 S) (w1 S) (w2 S)<aZ,U y0,U y1,y0+18446744073709551616*y1<21267647932558653966460912964485513216,0=0,ln S=ln S,iK=iK,0=0,m=m,6=6,w0 S::w1 S::w2 S::List.replicate (iK-3) 0=w0 S::w1 S::w2 S::List.replicate (iK-3) 0,[y0,y1,0,0,0,0]=[y0,y1,0,0,0,0]]) ⟨rfl,hm,Aq,u.1,u.2.1,u.2.2,s1,fC,iJ,hy,rfl,rfl,rfl,rfl,rfl,rfl,rfl,rfl,trivial⟩ q hq
 .rcases List.mem_append.1 hq with hq | hq
  .cases c with
   | zero=>cases hq
   | succ c=>
     rcases Ee with ⟨rfl,h0⟩ | ⟨rfl,h0⟩
     .exact aA (l:=[ln R=nl [w0 R,w1 R,w2 R],ln R=0]) ⟨rfl,h0 (by omega),trivial⟩ q hq
     .exact aA (l:=[ln R=nl [w0 R,w1 R,w2 R],ln R≠0,U (w0 R),U (w1 R),U (w2 R),n3 (w0 R) (w1 R) (w2 R)<aZ]) ⟨rfl,h0,v.1,v.2.1,v.2.2,r1,trivial⟩ q hq
  .rcases List.mem_append.1 hq with hq | hq
   .exact aA (l:=[U (V [b0,b1,b2,b3,b4,b5,b6,b7]),U (V [b8,b9,dF,dD,dC,dB,dA,x]),(1:Int)=1]) ⟨v0,v1,rfl,trivial⟩ q hq
   .rcases List.mem_append.1 hq with hq | hq
    .cases c with
     | zero=>cases hq
     | succ c=>exact aA (l:=[0=0,ln R=ln R,c+1=c+1,w0 R::w1 R::w2 R::List.replicate (c+1-3) 0=w0 R::w1 R::w2 R::List.replicate (c+1-3) 0]) ⟨rfl,rfl,rfl,rfl,trivial⟩ q hq
    .rcases List.mem_append.1 hq with hq | hq
     .refine aA ?_ q hq
      exact ⟨rfl,hb,rfl,rfl,rfl,e4,e5,e6,rfl,rfl,rfl,e1,⟨rfl,rfl⟩,rfl,rfl,rfl,rfl,trivial⟩
     .cases lU with
      | zero=>exact aA (l:=[([]:List Int)=[],xs=xs]) ⟨rfl,rfl,trivial⟩ q hq
      | succ lU=>
        refine aA ?_ q hq
        exact ⟨rfl,rfl,rfl,rfl,rfl,rfl,trivial⟩
namespace M
def rm (S:Int) (m:Nat):Nat:=if ln S=0\/m=0 then 0 else ln S+m+4
theorem aAm (S y0 y1:Int):C5 (rm S (nl [y0,y1])):=by
 unfold rm C5
 split
 .exact Or.inl rfl
 .rename_i h
  have h3:ln S<=3:=by unfold ln;rcases nl3 (w0 S) (w1 S) (w2 S) with h | h | h | h <;> omega
  have h2:nl [y0,y1]<=2:=by rcases OT y0 y1 with h | h | h <;> omega
  omega
theorem ln0 {S:Int} (h0:0<=S) (h1:S<aZ) (h:ln S=0):S=0:=by
 have e:=Kq h0 h1
 unfold ln at h
 rcases nl3 (w0 S) (w1 S) (w2 S) with ⟨_,a,b,c⟩ | h' | h' | h'
 .rw [<- e,a,b,c];rfl
 all_goals omega
theorem TW {S y0 y1:Int} (h0:0<=S) (h1:S<aZ) (h:rm S (nl [y0,y1])=0):Vg S y0 y1=0:=by
 unfold rm at h
 split at h
 .rename_i h2
  unfold Vg
  rw [Kq h0 h1]
  rcases h2 with h2 | h2
  .rw [ln0 h0 h1 h2];simp
  .rcases OT y0 y1 with ⟨_,rfl,rfl⟩ | h' | h'
   .simp
   all_goals omega
 .omega
end M
def NL (c:Nat) (R:Int):Prop:=C5 c/\(c=0->R=0)/\0<=R/\R<M.aZ
theorem HU {c:Nat} {R Y:Int} (h:NL c R):CR c R Y=(R+Y)%M.aZ:=by
 obtain ⟨hc,h0,h1,h2⟩:=h
 cases c with
 | zero=>rw [h0 rfl];rfl
 | succ c=>show (M.n3 (M.w0 R) (M.w1 R) (M.w2 R)+Y)%M.aZ=_;rw [M.Kq h1 h2]
noncomputable def NH (key:List Int) (d:Nat->List Int) (j:SV) (J:Nat) (i:Int) (c:Nat) (R:Int) (t:Nat):St:=Ak j (d (J+1)).length i (M.kS key) (M.vT key) (M.tK key) (M.nl [M.vT key,M.tK key]) c R (M.held (M.cat d) t) (d (J+1))
def eO (key:List Int) (d:Nat->List Int) (t:Nat):Int:=M.acc (M.vT key+18446744073709551616*M.tK key) (M.cat d) (t/16)
set_option maxHeartbeats 4000000 in
theorem Mh {sI:Nat} {key:List Int} {d:Nat->List Int} (hk:bG key) (hd:bG (M.cat d)) (hl:(M.cat d).length<=1073741824) {J:Nat} (hJ:J<5) {w0:World} {Mx:Nat->Prop} {V0:bF} (hb:mU (ΓT 7 0 sI) (aC 100 (Di d)) 100 V0) {K:List Fr} {Q:Exit->Act->World->Prop}
 (hx:∀ c,NL c (eO key d (M.off d (J+1)))->G Tryz.prog (ΓT 7 0 sI) w0 Mx (aC 100 (Di d)) Tryz.f48.ntmps 100 V0 (.at (.exit 5)) K (NH key d (.int true .i64 (J:Nat)) J (d (J+1)).length c (eO key d (M.off d (J+1))) (M.off d (J+1))) Q)
 {c:Nat} (hc:NL c (eO key d (M.off d J))):G Tryz.prog (ΓT 7 0 sI) w0 Mx (aC 100 (Di d)) Tryz.f48.ntmps 100 V0 (.go (.loop pC)) K (NH key d (.int false .i64 (J:Nat)) J 0 c (eO key d (M.off d J)) (M.off d J)) Q:=by
 obtain ⟨u0,u1,u2⟩:=M.aXk hk
 have Ed:=M.aGo d hJ
 have Dp:mU (ΓT 7 0 0) (aC 100 (Di d)) 100 V0:=hb.Ep (oK _ _ _ _ _ _)
 refine G.loop (fun r s=>∃ i c:Nat,i<=(d (J+1)).length/\r=(d (J+1)).length-i/\NL c (eO key d (M.off d J+i))/\s=NH key d (.int false .i64 (J:Nat)) J (i:Nat) c (eO key d (M.off d J+i)) (M.off d J+i)) (r0:=(d (J+1)).length) ⟨0,c,by omega,rfl,hc,rfl⟩ ?_
 rintro r s ⟨i,c,hi,rfl,hR,rfl⟩
 by_cases cK:i<(d (J+1)).length
 .have rX:=M.YK d hJ cK
  by_cases h15:(M.off d J+i)%16=15
  ·
   have OW:(M.off d J+i+1)/16=(M.off d J+i)/16+1:=by omega
   have Vp:16*((M.off d J+i)/16)+16<=(M.cat d).length:=by omega
   have Bk:(M.cat d).getD (16*((M.off d J+i)/16)+15) 0=(d (J+1)).getD i 0:=by rw [<- rX];congr 1;omega
   have gA:=M.aKc (M.cat d) (k:=(M.off d J+i)/16) (by omega)
   have pT:=M.Vb hd ((16*((M.off d J+i)/16):Nat):Int) 16
   rw [gA,Bk] at pT
   have aYn:=M.NC (M.vT key+18446744073709551616*M.tK key) Vp
   obtain ⟨hC,hR0,hR1,hR2⟩:=hR
   have hR:NL c (eO key d (M.off d J+i)):=⟨hC,hR0,hR1,hR2⟩
   generalize hRR:eO key d (M.off d J+i)=R at *
   have hS:=HU (Y:=M.V (M.bB (M.cat d) ((16*((M.off d J+i)/16):Nat):Int) 16)) hR
   generalize hSS:CR c R (M.V (M.bB (M.cat d) ((16*((M.off d J+i)/16):Nat):Int) 16))=S at *
   have hSb:0<=S/\S<M.aZ:=by rw [hS];exact M.Ih _
   have hQ:eO key d (M.off d J+(i+1))=Vg S (M.vT key) (M.tK key):=by
    show M.acc _ (M.cat d) ((M.off d J+(i+1))/16)=_
    rw [<- Nat.add_assoc,OW,aYn]
    unfold Vg
    rw [M.step_eq hS,<- hRR]
    rfl
   obtain ⟨iK,Ee,aQt⟩:∃ iK,(iK=7\/(iK=8/\c≠0))/\(iK=7/\(c≠0->M.ln R=0)\/iK=8/\M.ln R≠0):=by
    by_cases h:M.ln R=0
    .exact ⟨7,Or.inl rfl,Or.inl ⟨rfl,fun _=>h⟩⟩
    .by_cases wA:c=0
     .exact ⟨7,Or.inl rfl,Or.inl ⟨rfl,fun dP=>(dP wA).elim⟩⟩
     .exact ⟨8,Or.inr ⟨rfl,wA⟩,Or.inr ⟨rfl,h⟩⟩
   have gG:=aFt hC Ee (M.aAm S (M.vT key) (M.tK key))
   have aQj:M.rm S (M.nl [M.vT key,M.tK key])=0->Vg S (M.vT key) (M.tK key)=0:=M.TW hSb.1 hSb.2
   have aQi:=M.aAm S (M.vT key) (M.tK key)
   have aQh:M.rm S (M.nl [M.vT key,M.tK key])=if M.ln S=0\/M.nl [M.vT key,M.tK key]=0 then 0 else M.ln S+M.nl [M.vT key,M.tK key]+4:=rfl
   generalize M.rm S (M.nl [M.vT key,M.tK key])=lU at *
   refine G.op 9 0 ?_
   unfold NH
   rw [M.WC _ h15]
   have hr:=gG (M.kS key) d (M.vT key) (M.tK key) (M.nl [M.vT key,M.tK key]) R (Vg S (M.vT key) (M.tK key)) ((M.cat d).getD (16*((M.off d J+i)/16)) 0) ((M.cat d).getD (16*((M.off d J+i)/16)+1) 0) ((M.cat d).getD (16*((M.off d J+i)/16)+2) 0) ((M.cat d).getD (16*((M.off d J+i)/16)+3) 0) ((M.cat d).getD (16*((M.off d J+i)/16)+4) 0) ((M.cat d).getD (16*((M.off d J+i)/16)+5) 0) ((M.cat d).getD (16*((M.off d J+i)/16)+6) 0) ((M.cat d).getD (16*((M.off d J+i)/16)+7) 0) ((M.cat d).getD (16*((M.off d J+i)/16)+8) 0) ((M.cat d).getD (16*((M.off d J+i)/16)+9) 0) ((M.cat d).getD (16*((M.off d J+i)/16)+10) 0) ((M.cat d).getD (16*((M.off d J+i)/16)+11) 0) ((M.cat d).getD (16*((M.off d J+i)/16)+12) 0) ((M.cat d).getD (16*((M.off d J+i)/16)+13) 0) ((M.cat d).getD (16*((M.off d J+i)/16)+14) 0) (d (J+1)) (J:Nat) (d (J+1)).length (i:Nat) ((i+1:Nat):Int)
   refine G.Ep (Γ':=ΓT iK lU 0) (oK _ _ _ _ _ _) ?_
   refine G.cL (sV _ _ _) (sW _ _ _) mix (hb.Ep (oK _ _ _ _ _ _)) [true] hr ?_ (G.Ep (Γ':=ΓT 7 0 sI) (oK _ _ _ _ _ _) (G.again fun V _ _ fZ=>⟨(d (J+1)).length-(i+1),by omega,_,⟨i+1,lU,by omega,rfl,?_,?_⟩,V,fZ⟩))
   .rw [Int.toNat_natCast,<- M.bCe,<- Bk,<- gA,hSS]
    rw [<- Bk] at pT
    exact HW hSb rfl aQh u0 u1 u2 aQt ⟨hR1,hR2⟩ pT cK rfl (by omega) rfl rfl
   .rw [hQ]
    exact ⟨aQi,aQj,by unfold Vg;exact (M.Ih _).1,by unfold Vg;exact (M.Ih _).2⟩
   .rw [hQ]
    show _=Ak _ _ _ _ _ _ _ _ _ (M.held (M.cat d) (M.off d J+(i+1))) _
    rw [M.HB _ (by omega)]
    rfl
  ·
   have OW:(M.off d J+(i+1))/16=(M.off d J+i)/16:=by omega
   have hQ:eO key d (M.off d J+(i+1))=eO key d (M.off d J+i):=by unfold eO;rw [OW]
   have hh:M.held (M.cat d) (M.off d J+i)++[(d (J+1)).getD i 0]=M.held (M.cat d) (M.off d J+(i+1)):=by rw [<- rX];exact M.Ya _ (by omega)
   refine G.Ep (Γ':=ΓT 7 0 0) (oK _ _ _ _ _ _) ?_
   refine G.cL (sV _ _ _) (sW _ _ _) mix Dp [true,false] (aFv hR.1 (M.kS key) d (M.vT key) (M.tK key) (M.nl [M.vT key,M.tK key]) _ _ (M.held (M.cat d) (M.off d J+(i+1))) (d (J+1)) (J:Nat) (d (J+1)).length (i:Nat) ((i+1:Nat):Int)) ?_ (G.Ep (Γ':=ΓT 7 0 sI) (oK _ _ _ _ _ _) (G.again fun V _ _ fZ=>⟨(d (J+1)).length-(i+1),by omega,_,⟨i+1,c,by omega,rfl,?_,?_⟩,V,fZ⟩))
   .exact HY (by rw [M.Nu];omega) cK rfl (by omega) hh rfl
   .rw [hQ];exact hR
   .rw [hQ];rfl
 .obtain rfl:i=(d (J+1)).length:=by omega
  refine G.Ep (Γ':=ΓT 7 0 0) (oK _ _ _ _ _ _) ?_
  refine G.cL (sV _ _ _) (sW _ _ _) mix Dp [false] (aFs hR.1 (M.kS key) d (M.vT key) (M.tK key) (M.nl [M.vT key,M.tK key]) _ _ (d (J+1)) (J:Nat) (d (J+1)).length ((d (J+1)).length:Nat) (J:Nat)) (HV rfl rfl) (G.Ep (Γ':=ΓT 7 0 sI) (oK _ _ _ _ _ _) (G.leave (fun h=>by cases h) ?_))
  exact hx c hR
theorem aFr (d:Nat->List Int) (y0 y1:Int) (m:Nat) (R:Int) (k:Nat->Int) (xs:List Int) (n:Nat) (i:Int) :
 rZ (ΓT 7 0 0) (Di d) 100 100 Tryz.f48 (AE 7 0 0 d (.at (.exit 5)) (wG 4) ((Ak (.int true .i64 4) n i [k 0,k 1,k 2,k 3,k 4,k 5,k 6,k 7,k 8,k 9,k 10,k 11,k 12,k 13,k 14,k 15,k 16,k 17,k 18,k 19,k 20,k 21,k 22,k 23,k 24,k 25,k 26,k 27,k 28,k 29,k 30,k 31] y0 y1 m 0 R [] xs).hint [false])) =
 sh (0:Int) fun z0=>
 sh (0:Nat) fun z1=>
 some {bV:=[z1=M.nl [M.V [k 16,k 17,k 18,k 19,k 20,k 21,k 22,k 23],M.V [k 24,k 25,k 26,k 27,k 28,k 29,k 30,k 31]],z1=z1,M.nl [M.V [k 16,k 17,k 18,k 19,k 20,k 21,k 22,k 23],M.V [k 24,k 25,k 26,k 27,k 28,k 29,k 30,k 31]]=z1,(6:Nat)=(6:Nat),[M.V [k 16,k 17,k 18,k 19,k 20,k 21,k 22,k 23],M.V [k 24,k 25,k 26,k 27,k 28,k 29,k 30,k 31],z0,z0,z0,z0]=[M.V [k 16,k 17,k 18,k 19,k 20,k 21,k 22,k 23],M.V [k 24,k 25,k 26,k 27,k 28,k 29,k 30,k 31],z0,z0,z0,z0],bG [k 0,k 1,k 2,k 3,k 4,k 5,k 6,k 7,k 8,k 9,k 10,k 11,k 12,k 13,k 14,k 15,k 16,k 17,k 18,k 19,k 20,k 21,k 22,k 23,k 24,k 25,k 26,k 27,k 28,k 29,k 30,k 31],[k 0,k 1,k 2,k 3,k 4,k 5,k 6,k 7,k 8,k 9,k 10,k 11,k 12,k 13,k 14,k 15,k 16,k 17,k 18,k 19,k 20,k 21,k 22,k 23,k 24,k 25,k 26,k 27,k 28,k 29,k 30,k 31]=[k 0,k 1,k 2,k 3,k 4,k 5,k 6,k 7,k 8,k 9,k 10,k 11,k 12,k 13,k 14,k 15,k 16,k 17,k 18,k 19,k 20,k 21,k 22,k 23,k 24,k 25,k 26,k 27,k 28,k 29,k 30,k 31],false=false],val:=SV.agg [SV.int false IntKind.u8 z0,SV.int false IntKind.u8 z0,SV.int false IntKind.u8 z0,SV.int false IntKind.u8 z0,SV.int false IntKind.u8 z0,SV.int false IntKind.u8 z0,SV.int false IntKind.u8 z0,SV.int false IntKind.u8 z0,SV.int false IntKind.u8 z0,SV.int false IntKind.u8 z0,SV.int false IntKind.u8 z0,SV.int false IntKind.u8 z0,SV.int false IntKind.u8 z0,SV.int false IntKind.u8 z0,SV.int false IntKind.u8 z0,SV.int false IntKind.u8 z0]}:=by kernel_rfl
theorem aFq (d:Nat->List Int) (y0 y1:Int) (m:Nat) (R:Int) (k:Nat->Int) (xs:List Int) (n:Nat) (i:Int) :
 rZ (ΓT 7 0 1) (Di d) 100 100 Tryz.f48 (AE 7 0 1 d (.at (.exit 5)) (wG 4) ((Ak (.int true .i64 4) n i [k 0,k 1,k 2,k 3,k 4,k 5,k 6,k 7,k 8,k 9,k 10,k 11,k 12,k 13,k 14,k 15,k 16,k 17,k 18,k 19,k 20,k 21,k 22,k 23,k 24,k 25,k 26,k 27,k 28,k 29,k 30,k 31] y0 y1 m 0 R [] xs).hint [false])) =
 sh (M.V [k 16,k 17,k 18,k 19,k 20,k 21,k 22,k 23]) fun z0=>
 sh (0:Int) fun z1=>
 sh (1:Nat) fun z2=>
 sh (0:Nat) fun z3=>
 some {bV:=[M.U z0,z3=z3,z2=z2,z2=z2,[M.V [k 16,k 17,k 18,k 19,k 20,k 21,k 22,k 23]]=[M.V [k 16,k 17,k 18,k 19,k 20,k 21,k 22,k 23]],z2=M.nl [M.V [k 16,k 17,k 18,k 19,k 20,k 21,k 22,k 23],M.V [k 24,k 25,k 26,k 27,k 28,k 29,k 30,k 31]],z3=z3,M.nl [M.V [k 16,k 17,k 18,k 19,k 20,k 21,k 22,k 23],M.V [k 24,k 25,k 26,k 27,k 28,k 29,k 30,k 31]]=z2,(6:Nat)=(6:Nat),[M.V [k 16,k 17,k 18,k 19,k 20,k 21,k 22,k 23],M.V [k 24,k 25,k 26,k 27,k 28,k 29,k 30,k 31],z1,z1,z1,z1]=[M.V [k 16,k 17,k 18,k 19,k 20,k 21,k 22,k 23],M.V [k 24,k 25,k 26,k 27,k 28,k 29,k 30,k 31],z1,z1,z1,z1],bG [k 0,k 1,k 2,k 3,k 4,k 5,k 6,k 7,k 8,k 9,k 10,k 11,k 12,k 13,k 14,k 15,k 16,k 17,k 18,k 19,k 20,k 21,k 22,k 23,k 24,k 25,k 26,k 27,k 28,k 29,k 30,k 31],[k 0,k 1,k 2,k 3,k 4,k 5,k 6,k 7,k 8,k 9,k 10,k 11,k 12,k 13,k 14,k 15,k 16,k 17,k 18,k 19,k 20,k 21,k 22,k 23,k 24,k 25,k 26,k 27,k 28,k 29,k 30,k 31]=[k 0,k 1,k 2,k 3,k 4,k 5,k 6,k 7,k 8,k 9,k 10,k 11,k 12,k 13,k 14,k 15,k 16,k 17,k 18,k 19,k 20,k 21,k 22,k 23,k 24,k 25,k 26,k 27,k 28,k 29,k 30,k 31],false=false],val:=SV.agg [SV.int false IntKind.u8 (M.nb z0 z3),SV.int false IntKind.u8 (M.nb z0 z2),SV.int false IntKind.u8 (M.nb z0 (2:Nat)),SV.int false IntKind.u8 (M.nb z0 (3:Nat)),SV.int false IntKind.u8 (M.nb z0 (4:Nat)),SV.int false IntKind.u8 (M.nb z0 (5:Nat)),SV.int false IntKind.u8 (M.nb z0 (6:Nat)),SV.int false IntKind.u8 (M.nb z0 (7:Nat)),SV.int false IntKind.u8 (M.nb z0 (8:Nat)),SV.int false IntKind.u8 (M.nb z0 (9:Nat)),SV.int false IntKind.u8 (M.nb z0 (10:Nat)),SV.int false IntKind.u8 (M.nb z0 (11:Nat)),SV.int false IntKind.u8 (M.nb z0 (12:Nat)),SV.int false IntKind.u8 (M.nb z0 (13:Nat)),SV.int false IntKind.u8 (M.nb z0 (14:Nat)),SV.int false IntKind.u8 (M.nb z0 (15:Nat))]}:=by kernel_rfl
theorem aFp (d:Nat->List Int) (y0 y1:Int) (m:Nat) (R:Int) (k:Nat->Int) (xs:List Int) (n:Nat) (i:Int) :
 rZ (ΓT 7 0 2) (Di d) 100 100 Tryz.f48 (AE 7 0 2 d (.at (.exit 5)) (wG 4) ((Ak (.int true .i64 4) n i [k 0,k 1,k 2,k 3,k 4,k 5,k 6,k 7,k 8,k 9,k 10,k 11,k 12,k 13,k 14,k 15,k 16,k 17,k 18,k 19,k 20,k 21,k 22,k 23,k 24,k 25,k 26,k 27,k 28,k 29,k 30,k 31] y0 y1 m 0 R [] xs).hint [false])) =
 sh (M.V [k 16,k 17,k 18,k 19,k 20,k 21,k 22,k 23]+(18446744073709551616:Int)*M.V [k 24,k 25,k 26,k 27,k 28,k 29,k 30,k 31]) fun z0=>
 sh (0:Int) fun z1=>
 sh (6:Nat) fun z2=>
 sh (2:Nat) fun z3=>
 sh (0:Nat) fun z4=>
 some {bV:=[z2=z2\/z2=(7:Nat)\/z2=(8:Nat)\/z2=(9:Nat),M.U (M.V [k 16,k 17,k 18,k 19,k 20,k 21,k 22,k 23]),M.U (M.V [k 24,k 25,k 26,k 27,k 28,k 29,k 30,k 31]),z1<=z1/\z1<(8:Int),z3=M.nl [M.V [k 16,k 17,k 18,k 19,k 20,k 21,k 22,k 23],M.V [k 24,k 25,k 26,k 27,k 28,k 29,k 30,k 31],z1],z4=z4,z3=z3,z2=z2,[M.V [k 16,k 17,k 18,k 19,k 20,k 21,k 22,k 23],M.V [k 24,k 25,k 26,k 27,k 28,k 29,k 30,k 31],z1,z1,z1,z1]=[M.V [k 16,k 17,k 18,k 19,k 20,k 21,k 22,k 23],M.V [k 24,k 25,k 26,k 27,k 28,k 29,k 30,k 31],z1,z1,z1,z1],z3=M.nl [M.V [k 16,k 17,k 18,k 19,k 20,k 21,k 22,k 23],M.V [k 24,k 25,k 26,k 27,k 28,k 29,k 30,k 31]],z4=z4,M.nl [M.V [k 16,k 17,k 18,k 19,k 20,k 21,k 22,k 23],M.V [k 24,k 25,k 26,k 27,k 28,k 29,k 30,k 31]]=z3,z2=z2,[M.V [k 16,k 17,k 18,k 19,k 20,k 21,k 22,k 23],M.V [k 24,k 25,k 26,k 27,k 28,k 29,k 30,k 31],z1,z1,z1,z1]=[M.V [k 16,k 17,k 18,k 19,k 20,k 21,k 22,k 23],M.V [k 24,k 25,k 26,k 27,k 28,k 29,k 30,k 31],z1,z1,z1,z1],bG [k 0,k 1,k 2,k 3,k 4,k 5,k 6,k 7,k 8,k 9,k 10,k 11,k 12,k 13,k 14,k 15,k 16,k 17,k 18,k 19,k 20,k 21,k 22,k 23,k 24,k 25,k 26,k 27,k 28,k 29,k 30,k 31],[k 0,k 1,k 2,k 3,k 4,k 5,k 6,k 7,k 8,k 9,k 10,k 11,k 12,k 13,k 14,k 15,k 16,k 17,k 18,k 19,k 20,k 21,k 22,k 23,k 24,k 25,k 26,k 27,k 28,k 29,k 30,k 31]=[k 0,k 1,k 2,k 3,k 4,k 5,k 6,k 7,k 8,k 9,k 10,k 11,k 12,k 13,k 14,k 15,k 16,k 17,k 18,k 19,k 20,k 21,k 22,k 23,k 24,k 25,k 26,k 27,k 28,k 29,k 30,k 31],false=false],val:=SV.agg [SV.int false IntKind.u8 (M.nb z0 z4),SV.int false IntKind.u8 (M.nb z0 (1:Nat)),SV.int false IntKind.u8 (M.nb z0 z3),SV.int false IntKind.u8 (M.nb z0 (3:Nat)),SV.int false IntKind.u8 (M.nb z0 (4:Nat)),SV.int false IntKind.u8 (M.nb z0 (5:Nat)),SV.int false IntKind.u8 (M.nb z0 z2),SV.int false IntKind.u8 (M.nb z0 (7:Nat)),SV.int false IntKind.u8 (M.nb z0 (8:Nat)),SV.int false IntKind.u8 (M.nb z0 (9:Nat)),SV.int false IntKind.u8 (M.nb z0 (10:Nat)),SV.int false IntKind.u8 (M.nb z0 (11:Nat)),SV.int false IntKind.u8 (M.nb z0 (12:Nat)),SV.int false IntKind.u8 (M.nb z0 (13:Nat)),SV.int false IntKind.u8 (M.nb z0 (14:Nat)),SV.int false IntKind.u8 (M.nb z0 (15:Nat))]}:=by kernel_rfl
theorem aUt {c:Nat} (hc:c=6\/c=7\/c=8\/c=9) (sI:Nat) (d:Nat->List Int) (y0 y1:Int) (m:Nat) (R:Int) (k:Nat->Int) (xs:List Int) (n:Nat) (i:Int):rZ (ΓT 7 0 sI) (Di d) 100 100 Tryz.f48 (AE 7 0 sI d (.at (.exit 5)) (wG 4) ((Ak (.int true .i64 4) n i [k 0,k 1,k 2,k 3,k 4,k 5,k 6,k 7,k 8,k 9,k 10,k 11,k 12,k 13,k 14,k 15,k 16,k 17,k 18,k 19,k 20,k 21,k 22,k 23,k 24,k 25,k 26,k 27,k 28,k 29,k 30,k 31] y0 y1 m c R [] xs).hint [false]))=some {bV:=[c=6\/c=7\/c=8\/c=9,M.U (M.w0 (M.n3 (M.w0 R) (M.w1 R) (M.w2 R)+(M.V [k 16,k 17,k 18,k 19,k 20,k 21,k 22,k 23]+(18446744073709551616:Int)*M.V [k 24,k 25,k 26,k 27,k 28,k 29,k 30,k 31]))),M.U (M.w1 (M.n3 (M.w0 R) (M.w1 R) (M.w2 R)+(M.V [k 16,k 17,k 18,k 19,k 20,k 21,k 22,k 23]+(18446744073709551616:Int)*M.V [k 24,k 25,k 26,k 27,k 28,k 29,k 30,k 31]))),(0:Int)<=M.w2 (M.n3 (M.w0 R) (M.w1 R) (M.w2 R)+(M.V [k 16,k 17,k 18,k 19,k 20,k 21,k 22,k 23]+(18446744073709551616:Int)*M.V [k 24,k 25,k 26,k 27,k 28,k 29,k 30,k 31]))/\M.w2 (M.n3 (M.w0 R) (M.w1 R) (M.w2 R)+(M.V [k 16,k 17,k 18,k 19,k 20,k 21,k 22,k 23]+(18446744073709551616:Int)*M.V [k 24,k 25,k 26,k 27,k 28,k 29,k 30,k 31]))<(8:Int),M.ln (M.n3 (M.w0 R) (M.w1 R) (M.w2 R)+(M.V [k 16,k 17,k 18,k 19,k 20,k 21,k 22,k 23]+(18446744073709551616:Int)*M.V [k 24,k 25,k 26,k 27,k 28,k 29,k 30,k 31]))=M.nl [M.w0 (M.n3 (M.w0 R) (M.w1 R) (M.w2 R)+(M.V [k 16,k 17,k 18,k 19,k 20,k 21,k 22,k 23]+(18446744073709551616:Int)*M.V [k 24,k 25,k 26,k 27,k 28,k 29,k 30,k 31])),M.w1 (M.n3 (M.w0 R) (M.w1 R) (M.w2 R)+(M.V [k 16,k 17,k 18,k 19,k 20,k 21,k 22,k 23]+(18446744073709551616:Int)*M.V [k 24,k 25,k 26,k 27,k 28,k 29,k 30,k 31])),M.w2 (M.n3 (M.w0 R) (M.w1 R) (M.w2 R)+(M.V [k 16,k 17,k 18,k 19,k 20,k 21,k 22,k 23]+(18446744073709551616:Int)*M.V [k 24,k 25,k 26,k 27,k 28,k 29,k 30,k 31]))],(0:Nat)=(0:Nat),M.ln (M.n3 (M.w0 R) (M.w1 R) (M.w2 R)+(M.V [k 16,k 17,k 18,k 19,k 20,k 21,k 22,k 23]+(18446744073709551616:Int)*M.V [k 24,k 25,k 26,k 27,k 28,k 29,k 30,k 31]))=M.ln (M.n3 (M.w0 R) (M.w1 R) (M.w2 R)+(M.V [k 16,k 17,k 18,k 19,k 20,k 21,k 22,k 23]+(18446744073709551616:Int)*M.V [k 24,k 25,k 26,k 27,k 28,k 29,k 30,k 31])),c=c,[M.w0 (M.n3 (M.w0 R) (M.w1 R) (M.w2 R)+(M.V [k 16,k 17,k 18,k 19,k 20,k 21,k 22,k 23]+(18446744073709551616:Int)*M.V [k 24,k 25,k 26,k 27,k 28,k 29,k 30,k 31])),M.w1 (M.n3 (M.w0 R) (M.w1 R) (M.w2 R)+(M.V [k 16,k 17,k 18,k 19,k 20,k 21,k 22,k 23]+(18446744073709551616:Int)*M.V [k 24,k 25,k 26,k 27,k 28,k 29,k 30,k 31])),M.w2 (M.n3 (M.w0 R) (M.w1 R) (M.w2 R)+(M.V [k 16,k 17,k 18,k 19,k 20,k 21,k 22,k 23]+(18446744073709551616:Int)*M.V [k 24,k 25,k 26,k 27,k 28,k 29,k 30,k 31]))]++List.replicate (c-3) (0:Int)=[M.w0 (M.n3 (M.w0 R) (M.w1 R) (M.w2 R)+(M.V [k 16,k 17,k 18,k 19,k 20,k 21,k 22,k 23]+(18446744073709551616:Int)*M.V [k 24,k 25,k 26,k 27,k 28,k 29,k 30,k 31])),M.w1 (M.n3 (M.w0 R) (M.w1 R) (M.w2 R)+(M.V [k 16,k 17,k 18,k 19,k 20,k 21,k 22,k 23]+(18446744073709551616:Int)*M.V [k 24,k 25,k 26,k 27,k 28,k 29,k 30,k 31])),M.w2 (M.n3 (M.w0 R) (M.w1 R) (M.w2 R)+(M.V [k 16,k 17,k 18,k 19,k 20,k 21,k 22,k 23]+(18446744073709551616:Int)*M.V [k 24,k 25,k 26,k 27,k 28,k 29,k 30,k 31]))]++List.replicate (c-3) (0:Int),c=6\/c=7\/c=8\/c=9,M.U (M.w0 R),M.U (M.w1 R),(0:Int)<=M.w2 R/\M.w2 R<(4:Int),M.U (M.V [k 16,k 17,k 18,k 19,k 20,k 21,k 22,k 23]),M.U (M.V [k 24,k 25,k 26,k 27,k 28,k 29,k 30,k 31]),M.ln R=M.nl [M.w0 R,M.w1 R,M.w2 R],M.nl [M.V [k 16,k 17,k 18,k 19,k 20,k 21,k 22,k 23],M.V [k 24,k 25,k 26,k 27,k 28,k 29,k 30,k 31]]=M.nl [M.V [k 16,k 17,k 18,k 19,k 20,k 21,k 22,k 23],M.V [k 24,k 25,k 26,k 27,k 28,k 29,k 30,k 31]],(0:Nat)=(0:Nat),M.ln R=M.ln R,c=c,(0:Nat)=(0:Nat),M.nl [M.V [k 16,k 17,k 18,k 19,k 20,k 21,k 22,k 23],M.V [k 24,k 25,k 26,k 27,k 28,k 29,k 30,k 31]]=M.nl [M.V [k 16,k 17,k 18,k 19,k 20,k 21,k 22,k 23],M.V [k 24,k 25,k 26,k 27,k 28,k 29,k 30,k 31]],(6:Nat)=(6:Nat),[M.w0 R,M.w1 R,M.w2 R]++List.replicate (c-3) (0:Int)=[M.w0 R,M.w1 R,M.w2 R]++List.replicate (c-3) (0:Int),[M.V [k 16,k 17,k 18,k 19,k 20,k 21,k 22,k 23],M.V [k 24,k 25,k 26,k 27,k 28,k 29,k 30,k 31],(0:Int),(0:Int),(0:Int),(0:Int)]=[M.V [k 16,k 17,k 18,k 19,k 20,k 21,k 22,k 23],M.V [k 24,k 25,k 26,k 27,k 28,k 29,k 30,k 31],(0:Int),(0:Int),(0:Int),(0:Int)],bG [k 0,k 1,k 2,k 3,k 4,k 5,k 6,k 7,k 8,k 9,k 10,k 11,k 12,k 13,k 14,k 15,k 16,k 17,k 18,k 19,k 20,k 21,k 22,k 23,k 24,k 25,k 26,k 27,k 28,k 29,k 30,k 31],[k 0,k 1,k 2,k 3,k 4,k 5,k 6,k 7,k 8,k 9,k 10,k 11,k 12,k 13,k 14,k 15,k 16,k 17,k 18,k 19,k 20,k 21,k 22,k 23,k 24,k 25,k 26,k 27,k 28,k 29,k 30,k 31]=[k 0,k 1,k 2,k 3,k 4,k 5,k 6,k 7,k 8,k 9,k 10,k 11,k 12,k 13,k 14,k 15,k 16,k 17,k 18,k 19,k 20,k 21,k 22,k 23,k 24,k 25,k 26,k 27,k 28,k 29,k 30,k 31],false=false],val:=SV.agg [SV.int false IntKind.u8 (M.nb (M.w0 (M.n3 (M.w0 R) (M.w1 R) (M.w2 R)+(M.V [k 16,k 17,k 18,k 19,k 20,k 21,k 22,k 23]+(18446744073709551616:Int)*M.V [k 24,k 25,k 26,k 27,k 28,k 29,k 30,k 31]))+(18446744073709551616:Int)*M.w1 (M.n3 (M.w0 R) (M.w1 R) (M.w2 R)+(M.V [k 16,k 17,k 18,k 19,k 20,k 21,k 22,k 23]+(18446744073709551616:Int)*M.V [k 24,k 25,k 26,k 27,k 28,k 29,k 30,k 31]))) (0:Nat)),SV.int false IntKind.u8 (M.nb (M.w0 (M.n3 (M.w0 R) (M.w1 R) (M.w2 R)+(M.V [k 16,k 17,k 18,k 19,k 20,k 21,k 22,k 23]+(18446744073709551616:Int)*M.V [k 24,k 25,k 26,k 27,k 28,k 29,k 30,k 31]))+(18446744073709551616:Int)*M.w1 (M.n3 (M.w0 R) (M.w1 R) (M.w2 R)+(M.V [k 16,k 17,k 18,k 19,k 20,k 21,k 22,k 23]+(18446744073709551616:Int)*M.V [k 24,k 25,k 26,k 27,k 28,k 29,k 30,k 31]))) (1:Nat)),SV.int false IntKind.u8 (M.nb (M.w0 (M.n3 (M.w0 R) (M.w1 R) (M.w2 R)+(M.V [k 16,k 17,k 18,k 19,k 20,k 21,k 22,k 23]+(18446744073709551616:Int)*M.V [k 24,k 25,k 26,k 27,k 28,k 29,k 30,k 31]))+(18446744073709551616:Int)*M.w1 (M.n3 (M.w0 R) (M.w1 R) (M.w2 R)+(M.V [k 16,k 17,k 18,k 19,k 20,k 21,k 22,k 23]+(18446744073709551616:Int)*M.V [k 24,k 25,k 26,k 27,k 28,k 29,k 30,k 31]))) (2:Nat)),SV.int false IntKind.u8 (M.nb (M.w0 (M.n3 (M.w0 R) (M.w1 R) (M.w2 R)+(M.V [k 16,k 17,k 18,k 19,k 20,k 21,k 22,k 23]+(18446744073709551616:Int)*M.V [k 24,k 25,k 26,k 27,k 28,k 29,k 30,k 31]))+(18446744073709551616:Int)*M.w1 (M.n3 (M.w0 R) (M.w1 R) (M.w2 R)+(M.V [k 16,k 17,k 18,k 19,k 20,k 21,k 22,k 23]+(18446744073709551616:Int)*M.V [k 24,k 25,k 26,k 27,k 28,k 29,k 30,k 31]))) (3:Nat)),SV.int false IntKind.u8 (M.nb (M.w0 (M.n3 (M.w0 R) (M.w1 R) (M.w2 R)+(M.V [k 16,k 17,k 18,k 19,k 20,k 21,k 22,k 23]+(18446744073709551616:Int)*M.V [k 24,k 25,k 26,k 27,k 28,k 29,k 30,k 31]))+(18446744073709551616:Int)*M.w1 (M.n3 (M.w0 R) (M.w1 R) (M.w2 R)+(M.V [k 16,k 17,k 18,k 19,k 20,k 21,k 22,k 23]+(18446744073709551616:Int)*M.V [k 24,k 25,k 26,k 27,k 28,k 29,k 30,k 31]))) (4:Nat)),SV.int false IntKind.u8 (M.nb (M.w0 (M.n3 (M.w0 R) (M.w1 R) (M.w2 R)+(M.V [k 16,k 17,k 18,k 19,k 20,k 21,k 22,k 23]+(18446744073709551616:Int)*M.V [k 24,k 25,k 26,k 27,k 28,k 29,k 30,k 31]))+(18446744073709551616:Int)*M.w1 (M.n3 (M.w0 R) (M.w1 R) (M.w2 R)+(M.V [k 16,k 17,k 18,k 19,k 20,k 21,k 22,k 23]+(18446744073709551616:Int)*M.V [k 24,k 25,k 26,k 27,k 28,k 29,k 30,k 31]))) (5:Nat)),SV.int false IntKind.u8 (M.nb (M.w0 (M.n3 (M.w0 R) (M.w1 R) (M.w2 R)+(M.V [k 16,k 17,k 18,k 19,k 20,k 21,k 22,k 23]+(18446744073709551616:Int)*M.V [k 24,k 25,k 26,k 27,k 28,k 29,k 30,k 31]))+(18446744073709551616:Int)*M.w1 (M.n3 (M.w0 R) (M.w1 R) (M.w2 R)+(M.V [k 16,k 17,k 18,k 19,k 20,k 21,k 22,k 23]+(18446744073709551616:Int)*M.V [k 24,k 25,k 26,k 27,k 28,k 29,k 30,k 31]))) (6:Nat)),SV.int false IntKind.u8 (M.nb (M.w0 (M.n3 (M.w0 R) (M.w1 R) (M.w2 R)+(M.V [k 16,k 17,k 18,k 19,k 20,k 21,k 22,k 23]+(18446744073709551616:Int)*M.V [k 24,k 25,k 26,k 27,k 28,k 29,k 30,k 31]))+(18446744073709551616:Int)*M.w1 (M.n3 (M.w0 R) (M.w1 R) (M.w2 R)+(M.V [k 16,k 17,k 18,k 19,k 20,k 21,k 22,k 23]+(18446744073709551616:Int)*M.V [k 24,k 25,k 26,k 27,k 28,k 29,k 30,k 31]))) (7:Nat)),SV.int false IntKind.u8 (M.nb (M.w0 (M.n3 (M.w0 R) (M.w1 R) (M.w2 R)+(M.V [k 16,k 17,k 18,k 19,k 20,k 21,k 22,k 23]+(18446744073709551616:Int)*M.V [k 24,k 25,k 26,k 27,k 28,k 29,k 30,k 31]))+(18446744073709551616:Int)*M.w1 (M.n3 (M.w0 R) (M.w1 R) (M.w2 R)+(M.V [k 16,k 17,k 18,k 19,k 20,k 21,k 22,k 23]+(18446744073709551616:Int)*M.V [k 24,k 25,k 26,k 27,k 28,k 29,k 30,k 31]))) (8:Nat)),SV.int false IntKind.u8 (M.nb (M.w0 (M.n3 (M.w0 R) (M.w1 R) (M.w2 R)+(M.V [k 16,k 17,k 18,k 19,k 20,k 21,k 22,k 23]+(18446744073709551616:Int)*M.V [k 24,k 25,k 26,k 27,k 28,k 29,k 30,k 31]))+(18446744073709551616:Int)*M.w1 (M.n3 (M.w0 R) (M.w1 R) (M.w2 R)+(M.V [k 16,k 17,k 18,k 19,k 20,k 21,k 22,k 23]+(18446744073709551616:Int)*M.V [k 24,k 25,k 26,k 27,k 28,k 29,k 30,k 31]))) (9:Nat)),SV.int false IntKind.u8 (M.nb (M.w0 (M.n3 (M.w0 R) (M.w1 R) (M.w2 R)+(M.V [k 16,k 17,k 18,k 19,k 20,k 21,k 22,k 23]+(18446744073709551616:Int)*M.V [k 24,k 25,k 26,k 27,k 28,k 29,k 30,k 31]))+(18446744073709551616:Int)*M.w1 (M.n3 (M.w0 R) (M.w1 R) (M.w2 R)+(M.V [k 16,k 17,k 18,k 19,k 20,k 21,k 22,k 23]+(18446744073709551616:Int)*M.V [k 24,k 25,k 26,k 27,k 28,k 29,k 30,k 31]))) (10:Nat)),SV.int false IntKind.u8 (M.nb (M.w0 (M.n3 (M.w0 R) (M.w1 R) (M.w2 R)+(M.V [k 16,k 17,k 18,k 19,k 20,k 21,k 22,k 23]+(18446744073709551616:Int)*M.V [k 24,k 25,k 26,k 27,k 28,k 29,k 30,k 31]))+(18446744073709551616:Int)*M.w1 (M.n3 (M.w0 R) (M.w1 R) (M.w2 R)+(M.V [k 16,k 17,k 18,k 19,k 20,k 21,k 22,k 23]+(18446744073709551616:Int)*M.V [k 24,k 25,k 26,k 27,k 28,k 29,k 30,k 31]))) (11:Nat)),SV.int false IntKind.u8 (M.nb (M.w0 (M.n3 (M.w0 R) (M.w1 R) (M.w2 R)+(M.V [k 16,k 17,k 18,k 19,k 20,k 21,k 22,k 23]+(18446744073709551616:Int)*M.V [k 24,k 25,k 26,k 27,k 28,k 29,k 30,k 31]))+(18446744073709551616:Int)*M.w1 (M.n3 (M.w0 R) (M.w1 R) (M.w2 R)+(M.V [k 16,k 17,k 18,k 19,k 20,k 21,k 22,k 23]+(18446744073709551616:Int)*M.V [k 24,k 25,k 26,k 27,k 28,k 29,k 30,k 31]))) (12:Nat)),SV.int false IntKind.u8 (M.nb (M.w0 (M.n3 (M.w0 R) (M.w1 R) (M.w2 R)+(M.V [k 16,k 17,k 18,k 19,k 20,k 21,k 22,k 23]+(18446744073709551616:Int)*M.V [k 24,k 25,k 26,k 27,k 28,k 29,k 30,k 31]))+(18446744073709551616:Int)*M.w1 (M.n3 (M.w0 R) (M.w1 R) (M.w2 R)+(M.V [k 16,k 17,k 18,k 19,k 20,k 21,k 22,k 23]+(18446744073709551616:Int)*M.V [k 24,k 25,k 26,k 27,k 28,k 29,k 30,k 31]))) (13:Nat)),SV.int false IntKind.u8 (M.nb (M.w0 (M.n3 (M.w0 R) (M.w1 R) (M.w2 R)+(M.V [k 16,k 17,k 18,k 19,k 20,k 21,k 22,k 23]+(18446744073709551616:Int)*M.V [k 24,k 25,k 26,k 27,k 28,k 29,k 30,k 31]))+(18446744073709551616:Int)*M.w1 (M.n3 (M.w0 R) (M.w1 R) (M.w2 R)+(M.V [k 16,k 17,k 18,k 19,k 20,k 21,k 22,k 23]+(18446744073709551616:Int)*M.V [k 24,k 25,k 26,k 27,k 28,k 29,k 30,k 31]))) (14:Nat)),SV.int false IntKind.u8 (M.nb (M.w0 (M.n3 (M.w0 R) (M.w1 R) (M.w2 R)+(M.V [k 16,k 17,k 18,k 19,k 20,k 21,k 22,k 23]+(18446744073709551616:Int)*M.V [k 24,k 25,k 26,k 27,k 28,k 29,k 30,k 31]))+(18446744073709551616:Int)*M.w1 (M.n3 (M.w0 R) (M.w1 R) (M.w2 R)+(M.V [k 16,k 17,k 18,k 19,k 20,k 21,k 22,k 23]+(18446744073709551616:Int)*M.V [k 24,k 25,k 26,k 27,k 28,k 29,k 30,k 31]))) (15:Nat))]}:=by rcases hc with rfl | rfl | rfl | rfl <;> kernel_rfl
def sgE (key:List Int) (d:Nat->List Int):bR:={ val:=.agg ((M.tag key (M.cat d)).map (.int false .u8)) }
def Gy (key:List Int) (d:Nat->List Int):Int:=eO key d (M.cat d).length+(M.Aa key+18446744073709551616*M.Df key)
theorem aEt {key:List Int} {d:Nat->List Int} (hk:bG key) (Vp:(M.cat d).length%16=0) {W:Int} (hW:M.w0 (Gy key d)+18446744073709551616*M.w1 (Gy key d)=W) :
 (SV.agg [SV.int false .u8 (M.nb W 0),SV.int false .u8 (M.nb W 1),SV.int false .u8 (M.nb W 2),SV.int false .u8 (M.nb W 3),SV.int false .u8 (M.nb W 4),SV.int false .u8 (M.nb W 5),SV.int false .u8 (M.nb W 6),SV.int false .u8 (M.nb W 7),SV.int false .u8 (M.nb W 8),SV.int false .u8 (M.nb W 9),SV.int false .u8 (M.nb W 10),SV.int false .u8 (M.nb W 11),SV.int false .u8 (M.nb W 12),SV.int false .u8 (M.nb W 13),SV.int false .u8 (M.nb W 14),SV.int false .u8 (M.nb W 15)])=(sgE key d).val:=by
 unfold sgE
 rw [M.aEd hk Vp,M.bCd hk]
 show _=SV.agg (((List.range 16).map (M.nb (M.w0 (Gy key d)+18446744073709551616*M.w1 (Gy key d)))).map (SV.int false .u8))
 rw [hW];rfl
open M in
theorem aNx {c:Nat} (_:c=6\/c=7\/c=8\/c=9) {R Z0 Z1:Int} (hR:0<=R/\R<aZ) (h0:U Z0) (h1:U Z1) :
 U (w0 (n3 (w0 R) (w1 R) (w2 R)+(Z0+18446744073709551616*Z1)))/\U (w1 (n3 (w0 R) (w1 R) (w2 R)+(Z0+18446744073709551616*Z1)))/\(0<=w2 (n3 (w0 R) (w1 R) (w2 R)+(Z0+18446744073709551616*Z1))/\w2 (n3 (w0 R) (w1 R) (w2 R)+(Z0+18446744073709551616*Z1))<8)/\(0<=w2 R/\w2 R<4):=by
 obtain ⟨a,b,c'⟩:=PS (n3 (w0 R) (w1 R) (w2 R)+(Z0+18446744073709551616*Z1))
 refine ⟨a,b,?_,?_⟩
 .rw [Kq hR.1 hR.2]
  unfold U at h0 h1;unfold aZ at hR;unfold w2;omega
 .unfold aZ at hR;unfold w2;omega
set_option maxHeartbeats 4000000 in
theorem aFo {key:List Int} {d:Nat->List Int} (hk:bG key) (Vp:(M.cat d).length%16=0) {w0:World} {Mx:Nat->Prop} {V0:bF} {Q:Exit->Act->World->Prop}
 (H:∀ x s e',Kv (ΓT 7 0 (M.nl [M.Aa key,M.Df key])) (Di d) 100 100 Tryz.f48 x s=some e'->(∀ q∈e'.bV,q)->e'.val=(sgE key d).val->e'.new=(sgE key d).new->e'.wr=(sgE key d).wr->G Tryz.prog (ΓT 7 0 (M.nl [M.Aa key,M.Df key])) w0 Mx (aC 100 (Di d)) Tryz.f48.ntmps 100 V0 (.at x) [] s Q)
 {c:Nat} (hR:NL c (eO key d (M.cat d).length)) :
 G Tryz.prog (ΓT 7 0 (M.nl [M.Aa key,M.Df key])) w0 Mx (aC 100 (Di d)) Tryz.f48.ntmps 100 V0 (.at (.exit 5)) (wG 4) (NH key d (.int true .i64 (4:Nat)) 4 (d 5).length c (eO key d (M.cat d).length) (M.cat d).length) Q:=by
 have hz:=M.aXj hk
 obtain ⟨z0,z1⟩:=hz
 have hB:bG (M.kS key):=M.GZ hk
 have aM:=sV 7 0 (M.nl [M.Aa key,M.Df key])
 have aE:=sW 7 0 (M.nl [M.Aa key,M.Df key])
 obtain ⟨hC,hR0,hR1,hR2⟩:=hR
 have Ec:=fun W h=>aEt (W:=W) hk Vp h
 have hN:Gy key d=eO key d (M.cat d).length+(M.Aa key+18446744073709551616*M.Df key):=rfl
 unfold NH
 rw [M.HB _ Vp]
 have big:∀ c,(c=6\/c=7\/c=8\/c=9)->M.w0 (Gy key d)+18446744073709551616*M.w1 (Gy key d)=M.w0 (M.n3 (M.w0 (eO key d (M.cat d).length)) (M.w1 (eO key d (M.cat d).length)) (M.w2 (eO key d (M.cat d).length))+(M.Aa key+18446744073709551616*M.Df key))+18446744073709551616*M.w1 (M.n3 (M.w0 (eO key d (M.cat d).length)) (M.w1 (eO key d (M.cat d).length)) (M.w2 (eO key d (M.cat d).length))+(M.Aa key+18446744073709551616*M.Df key)):=by
  intro c hc
  rw [hN,M.Kq hR1 hR2]
 have ob:∀ c,(c=6\/c=7\/c=8\/c=9)->_:=fun c hc=>aNx (c:=c) hc ⟨hR1,hR2⟩ z0 z1
 rcases hC with rfl | hC
 .have NQ:=hR0 rfl
  rw [NQ,Int.zero_add] at hN
  rw [NQ]
  have e0:M.w0 (Gy key d)=M.Aa key:=by rw [hN];unfold M.U at z0 z1;unfold M.w0;omega
  have e1:M.w1 (Gy key d)=M.Df key:=by rw [hN];unfold M.U at z0 z1;unfold M.w1;omega
  have en:M.nl [M.Aa key,M.Df key,0]=M.nl [M.Aa key,M.Df key]:=M.gC [M.Aa key,M.Df key]
  rw [e0,e1] at Ec
  generalize He:M.nl [M.Aa key,M.Df key]=sI at *
  rcases M.OT (M.Aa key) (M.Df key) with ⟨h,y0,y1⟩ | ⟨h,y0,y1⟩ | ⟨h,y0⟩
  .rw [He] at h;subst h
   refine G.eX (cl:=[]) aM aE mix [false] H (aFr d _ _ _ _ (fun j=>(M.kS key).getD j 0) _ _ _) (aA ?_) (Ec 0 (by rw [y0,y1];rfl)) rfl rfl
   exact ⟨He.symm,rfl,He,rfl,rfl,hB,rfl,rfl,trivial⟩
  .rw [He] at h;subst h
   refine G.eX (cl:=[]) aM aE mix [false] H (aFq d _ _ _ _ (fun j=>(M.kS key).getD j 0) _ _ _) (aA ?_) (Ec (M.Aa key) (by rw [y1];omega)) rfl rfl
   exact ⟨z0,rfl,rfl,rfl,rfl,He.symm,rfl,He,rfl,rfl,hB,rfl,rfl,trivial⟩
  .rw [He] at h;subst h
   refine G.eX (cl:=[]) aM aE mix [false] H (aFp d _ _ _ _ (fun j=>(M.kS key).getD j 0) _ _ _) (aA ?_) (Ec _ rfl) rfl rfl
   exact ⟨.inl rfl,z0,z1,⟨by decide,by decide⟩,en.symm,rfl,rfl,rfl,rfl,He.symm,rfl,He,rfl,rfl,hB,rfl,rfl,trivial⟩
 obtain ⟨o1,o2,o3,o4⟩:=ob c hC
 have u:=M.PS (eO key d (M.cat d).length)
 refine G.eX (cl:=[]) aM aE mix [false] H (aUt hC (M.nl [M.Aa key,M.Df key]) d _ _ _ _ (fun j=>(M.kS key).getD j 0) _ _ _) (aA ?_) (Ec _ (big c hC)) rfl rfl
 exact ⟨hC,o1,o2,o3,rfl,rfl,rfl,rfl,rfl,hC,u.1,u.2.1,o4,z0,z1,rfl,rfl,rfl,rfl,rfl,rfl,rfl,rfl,rfl,rfl,hB,rfl,rfl,trivial⟩
set_option maxHeartbeats 4000000 in
theorem TO {key:List Int} {d:Nat->List Int} (hk:bG key) (hd:bG (M.cat d)) (hl:(M.cat d).length<=1073741824) (Vp:(M.cat d).length%16=0) :
 aD Tryz.prog (ΓT 7 0 (M.nl [M.Aa key,M.Df key])) 48 (BA key) (Di d) 100 100 (sgE key d):=by
 refine bU (sV _ _ _) (sW _ _ _) Tryz.func48 (by kernel_rfl) rfl (Nat.le_of_ble_eq_true (by kernel_rfl)) rfl [] ?_
 intro w0 Mx V0 Q hb H
 have QO:=fun c hR=>aFo hk Vp H (c:=c) hR
 have hB:bG (M.kS key):=M.GZ hk
 generalize M.nl [M.Aa key,M.Df key]=sI at *
 have Dp:mU (ΓT 7 0 0) (aC 100 (Di d)) 100 V0:=hb.Ep (oK _ _ _ _ _ _)
 have h5:=M.aAu d
 have next:∀ J,J<4->(∀ c,NL c (eO key d (M.off d (J+1)))->G Tryz.prog (ΓT 7 0 sI) w0 Mx (aC 100 (Di d)) Tryz.f48.ntmps 100 V0 (.go (.loop pC)) (wG (J+1)) (NH key d (.int false .i64 ((J+1:Nat):Int)) (J+1) 0 c (eO key d (M.off d (J+1))) (M.off d (J+1))) Q) ->
  ∀ c,NL c (eO key d (M.off d J))->G Tryz.prog (ΓT 7 0 sI) w0 Mx (aC 100 (Di d)) Tryz.f48.ntmps 100 V0 (.go (.loop pC)) (wG J) (NH key d (.int false .i64 (J:Nat)) J 0 c (eO key d (M.off d J)) (M.off d J)) Q:=by
  intro J hJ hG c hR
  refine Mh hk hd hl (by omega) hb (fun c hR=>?_) hR
  refine G.Ep (Γ':=ΓT 7 0 0) (oK _ _ _ _ _ _) ?_
  exact G.cL (sV _ _ _) (sW _ _ _) mix Dp [] (aFu hR.1 hJ (M.kS key) d (M.vT key) (M.tK key) (M.nl [M.vT key,M.tK key]) _ _ (d (J+1)) (d (J+1)).length ((d (J+1)).length:Nat)) HX (G.Ep (Γ':=ΓT 7 0 sI) (oK _ _ _ _ _ _) (hG c hR))
 have last:∀ c,NL c (eO key d (M.off d 4))->G Tryz.prog (ΓT 7 0 sI) w0 Mx (aC 100 (Di d)) Tryz.f48.ntmps 100 V0 (.go (.loop pC)) (wG 4) (NH key d (.int false .i64 ((4:Nat):Int)) 4 0 c (eO key d (M.off d 4)) (M.off d 4)) Q:=by
  intro c hR
  refine Mh hk hd hl (by omega) hb (fun c hR=>?_) hR
  have hR':NL c (eO key d (M.off d 5)):=hR
  show G Tryz.prog (ΓT 7 0 sI) w0 Mx (aC 100 (Di d)) Tryz.f48.ntmps 100 V0 (.at (.exit 5)) (wG 4) (NH key d (.int true .i64 (4:Nat)) 4 (d 5).length c (eO key d (M.off d 5)) (M.off d 5)) Q
  rw [h5] at hR' |-
  exact QO c hR'
 have all:=next 0 (by decide) (next 1 (by decide) (next 2 (by decide) (next 3 (by decide) last)))
 have ha0:eO key d (M.off d 0)=0:=by simp [eO,M.off,M.acc]
 refine G.Ep (Γ':=ΓT 7 0 0) (oK _ _ _ _ _ _) ?_
 refine G.cL (sV _ _ _) (sW _ _ _) mix Dp [] (aUu key (M.kS key) d (M.vT key) (M.tK key) (M.nl [M.vT key,M.tK key])) (aA ?_) (G.Ep (Γ':=ΓT 7 0 sI) (oK _ _ _ _ _ _) ?_)
 .exact ⟨hB,rfl,rfl,rfl,rfl,rfl,⟨rfl,rfl⟩,rfl,rfl,rfl,rfl,rfl,rfl,trivial⟩
 .have:=all 0 ⟨.inl rfl,fun _=>ha0,by rw [ha0];decide,by rw [ha0];decide⟩
  rw [ha0] at this
  exact this
def dOf (x1 x2 x3 x4 x5:List Int):Nat->List Int
 | 1=>x1
 | 2=>x2
 | 3=>x3
 | 4=>x4
 | _=>x5
def Sl (vs:List SV) (T:bA):Option Canon:=match vs with
 | [ks,.aI L _ 0 5 5]=>match cY ks,T L with
   | some (.u8,k),some (.own [p1,p2,p3,p4,p5] _)=>match fG T .u8 p1,fG T .u8 p2,fG T .u8 p3,fG T .u8 p4,fG T .u8 p5 with
     | some (o1,x1),some (o2,x2),some (o3,x3),some (o4,x4),some (o5,x5)=>some { eR:=[.ai .u8 k,.aI 62 true 0 5 5],T0:=sgB (dOf x1 x2 x3 x4 x5),vl:=[(62,.lab L 0),(71,.cell L 0),(72,.cell L 1),(73,.cell L 2),(74,.cell L 3),(75,.cell L 4)],e0:={ val:=.ai .u8 (M.tag k (x1++(x2++(x3++(x4++x5))))) },conds:=(k.length=32)::bG k::bG (x1++(x2++(x3++(x4++x5))))::((x1++(x2++(x3++(x4++x5)))).length<=1073741824)::((x1++(x2++(x3++(x4++x5)))).length%16=0)::(o1++(o2++(o3++(o4++o5)))) }
     | _,_,_,_,_=>none
   | _,_=>none
 | _=>none
theorem aDn (a b c:Nat):(ΓT a b c).aU=aB:=by kernel_rfl
theorem GL (Γ:Env) (hg:Γ.aU=aB):aH Tryz.prog Γ 48 (aK aB 100 Sl):=by
 refine aT hg fun vs T c hd hc=>?_
 unfold Sl at hd
 split at hd
 case h_2=>cases hd
 split at hd
 case h_2=>cases hd
 split at hd
 case h_2=>cases hd
 cases hd
 rename_i k _ _ _ _ _ _ _ _ _ _ _ _ _ o1 x1 o2 x2 o3 x3 o4 x4 o5 x5 _ _ _ _ _
 have h32:k.length=32:=hc _ List.mem_cons_self
 have h:aD Tryz.prog _ 48 (BA k) (Di (dOf x1 x2 x3 x4 x5)) 100 100 (sgE k (dOf x1 x2 x3 x4 x5)):=TO (hc _ (by simp)) (hc _ (by simp [M.cat,dOf])) (hc _ (by simp [M.cat,dOf])) (hc _ (by simp [M.cat,dOf]))
 refine h.words (hg.trans (aDn _ _ _).symm) (fun V=>?_) (fun _ _ h=>h) (fun V=>?_) rfl rfl
 .simp only [BA,aJ,cF V h32]
 .show den V (.agg ((M.tag k (M.cat (dOf x1 x2 x3 x4 x5))).map (.int false .u8)))=_
  simp only [den,xR]
  rfl
end Go.Proofs.YtaibhjpgbckbkaaGreatDoor.Sx
