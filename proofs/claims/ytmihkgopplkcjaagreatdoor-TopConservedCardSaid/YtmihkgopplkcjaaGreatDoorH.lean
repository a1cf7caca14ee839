/- Part H of the proof of TopConserved. No condition. -/
import Derived.Test.YtmihkgopplkcjaaGreatDoorG
set_option linter.all false
set_option maxRecDepth 1000000
set_option maxHeartbeats 0
namespace Go.T
open Go Go.E Go.V Go.Proofs
theorem s13:AW Tryz.prog 13 (S13 F13):=λx y hy=>by
 cases hy;refine ⟨.lf,OU,rfl,λp w vargs hl _ _ hf H=>?_⟩;obtain ⟨q,U,q2,A,I,Y,J⟩:=H.advC (Ev.refl _ w);have hg:GlP ⟨λ_=>none,λ_=>none,w,[]⟩:=by
  have G:GlP ⟨λ_=>none,λ_=>none,q.zw,q.zM⟩:=A.gl.same rfl rfl;refine G.mono ⟨λ_ _ h=>h,λ_ _ h=>h,?_⟩;show Stp q.zM q.zw [] w
  rw [I];exact Stp.sub w λb hb=>by cases hb
 have e:vargs=[]:=M2k hl;subst e;refine (qV Ej Wu (L:=100) (k:=20) (g:=13) (by kernel_rfl) w hg).mono λv w' ⟨B,E⟩=>?_
 subst B;obtain ⟨r,r1,r2,r3,Z,r5,O⟩:=A.advC E;exact ⟨r,OU,[_],[],rfl,rfl,r3,⟨.bool true,r,[],rfl,rfl,rfl,rfl⟩,λb hb=>by simp at hb,λi j b hi=>by simp at hi,λm hm=>absurd hm (M2M m),(J _).trans (O _)⟩
end Go.T
