/- The statement of AeadBack: the call, seen from outside. -/
import Derived.Test.YticicdfijghigaaGreatDoorQN
open Go
set_option maxRecDepth 100000
section
open Go Go.Proofs.YticicdfijghigaaGreatDoor
set_option maxRecDepth 100000
namespace Go.Proofs.YticicdfijghigaaGreatDoor.AeadBack
open Go.ChangeShapes Go.WideShapes Go.ChangeAt Go.RowKit Go.Proofs.YticicdfijghigaaGreatDoor.Sx Go.Proofs.YticicdfijghigaaGreatDoor.Aea
theorem walk {W:World} (h:laidMet Tryz.prog listed W) {x y N:Int} {v4 v5 v6:Value} {key ad p r:List Int} (_:(Lit.int .i64 x).wf=true) (_:(Lit.int .i64 y).wf=true) (hk:key.length=32) (_:bR key) (_:(Lit.int .u64 N).wf=true) (r4:pE W .u8 v4 ad) (b4:bR ad) (r5:pE W .u8 v5 p) (b5:bR p) (r6:pE W .u8 v6 r) (b6:bR r) :
 Calls Tryz.prog 3 #[.int .i64 x,.int .i64 y,.agg (key.map (Value.int .u8)).toArray,.int .u64 N,v4,v5,v6] W fun e w'=>e = .returned (.bool true)/\Below W.heap.size W w':=by
 obtain ⟨V,k1,k2,k3,k4⟩:=Wu h [(60,.gQ .u8 ad),(61,.gQ .u8 p),(62,.gQ .u8 r)] [(60,v4),(61,v5),(62,v6)] rfl fun V hV x hx=>by
  simp only [List.mem_cons,List.not_mem_nil,or_false] at hx
  rcases hx with rfl | rfl | rfl
  .exact ⟨⟨_,rfl,v4,by rw [hV];rfl,r4⟩,rfl,trivial⟩
  .exact ⟨⟨_,rfl,v5,by rw [hV];rfl,r5⟩,rfl,trivial⟩
  .exact ⟨⟨_,rfl,v6,by rw [hV];rfl,r6⟩,rfl,trivial⟩
 have k5:V.σ 60=some v4:=(k4 60).trans rfl
 have k6:V.σ 61=some v5:=(k4 61).trans rfl
 have k7:V.σ 62=some v6:=(k4 62).trans rfl
 have Yv:aE V (Lo x y N key ad.length p.length r.length)=some [.int .i64 x,.int .i64 y,.agg (key.map (Value.int .u8)).toArray,.int .u64 N,v4,v5,v6]:=by
  simp only [Lo,aE,den,k5,k6,k7,Option.bind_some,Jf r4,Jf r5,Jf r6,Option.map_some]
 have fin:∀ (V':aY) (x:Value) (w':World),V.ext 100 V'->den V' (.bool true true)=some x->aC W (fun _=>False) V' (eI (Pp ad p r) 100 { val:=.bool true true }) w'->Ending.returned x = .returned (.bool true)/\Below W.heap.size W w':=fun V' x w' _ hx hT=>by
  simp only [den,aU] at hx
  subst hx
  exact ⟨rfl,hT.frame.os,hT.frame.tape,hT.frame.output,hT.frame.size,fun k hk=>hT.frame.block k hk (fun h=>h)⟩
 by_cases hs:ad.length<=131072/\p.length<=131072/\r.length<=131072
 .exact calls (Sx.aDi hk b4 b5 b6 hs.1 hs.2.1 hs.2.2) Tryz.func3 (by kernel_rfl) (c:=codeOf Tryz.f3) rfl k1 (fun n l hn=>k2 n l hn) (fun l CE _=>k3 l CE) k3 Yv fin
 .exact calls (Sx.aNt (by omega)) Tryz.func3 (by kernel_rfl) (c:=codeOf Tryz.f3) rfl k1 (fun n l hn=>k2 n l hn) (fun l CE _=>k3 l CE) k3 Yv fin
end Go.Proofs.YticicdfijghigaaGreatDoor.AeadBack
end
