/- A part of the proof. -/
import Derived.Test.YtmpdkagfplajjaaGreatDoorGG42
import Derived.Test.YtmpdkagfplajjaaGreatDoorGG43
import Derived.Stop.Joined
set_option linter.all false
set_option maxRecDepth 1000000
namespace Go.Abs
open Go Go.Proofs Go.Proofs.YtmpdkagfplajjaaGreatDoor Go.RowKit Go.ChangeShapes Go.WideShapes Go.ChangeAt
def D2Y(os:Os)(args:Array Value):((w0 os).forCall (λ_ _=>0) ⟨#[],args,[]⟩).Shaped Tryz.prog:=World.shaped_of_RefB (by kernel_rfl) (by kernel_rfl)
def D8k(os:Os)(b:os.Started)(H:Type)(enc:TypeId×Value->H):ReturnsInHanded {} Tryz.checked os 8 .any (λw args=>(Rows.codifyDefaultPlanSpec.pre enc Tryz.prog Tryz.f8 [] false w args/\laidMetH Tryz.prog A8R w)/\sizedMet enc Tryz.prog Tryz.f8 (OpenSpec.ofChange Rows.codifyDefaultPlanSpec) false w args) (Rows.codifyDefaultPlanSpec.post enc Tryz.prog Tryz.f8 false true false false):=by
 refine returnsInHanded_of_change_and (C:=Tryz.checked) (X:=λw _=>laidMetH Tryz.prog A8R w) (λ_ _ _ hh h=>laidMetH.of_heap hh h) own b (by kernel_rfl) Tryz.func8 (ChangeSpec.witness_shaped (enc:=enc) (C:=Tryz.checked) (os:=os) (X:=λw _=>laidMetH Tryz.prog A8R w) false (w0 os) #[.agg #[.int .i64 0,.int .i64 0,.int .i64 0,.int .i64 0,.string ⟨#[]⟩,.slice none 0 0,.slice none 0 0,.slice none 0 0],.int .i64 0] 8 (World.layVars_os _ _ _) (D2Y os _) (by kernel_rfl) (by kernel_rfl) (by kernel_rfl) (D6j os _)) ?_
 intro W base args ds gs g d hW _ _ hL _
 have c:∀(j:Nat) t v,Tryz.f8.params[j]?=some t->args[j]?=some v->Value.okWide Tryz.prog W .any base t v:=d
 have l:=hW
 obtain⟨p,q,f,hV,rfl,a2,y⟩:=hW
 have hA:DataW.TrodAll enc Tryz.prog W 0 (λ_=>true) true Tryz.f8.params.toList args.toList ds p:=f
 rw[Tryz.params8]at hA c
 obtain⟨v0,z,d0,r,p0,q0,k,rfl,rfl,h0,r0⟩:=trodAll_cons hA
 obtain⟨v1,o,d1,s,p1,q1,rfl,rfl,rfl,h1,r1⟩:=trodAll_cons r0
 obtain⟨rfl,rfl,rfl⟩:=trodAll_nil r1
 obtain rfl:args=#[v0,v1]:=by cases args;simp_all
 obtain⟨rfl,rfl⟩:=trodVars_none hV
 obtain⟨cs,rfl,_⟩:=okWide_struct Tryz.underlying27 (c 0 27 v0 rfl rfl)
 obtain⟨k1,e1⟩:=okWide_int Tryz.underlying3 (c 1 3 v1 rfl rfl)
 obtain⟨a0,s0,x0⟩:=D7T (sh:=.ref 0) (by kernel_rfl) h0
 obtain⟨a1,s1,x1⟩:=D8P (sh:=B9a) (by kernel_rfl) (by rw[e1];rfl) h1
 obtain⟨u,rfl,hg⟩:=D8Q s0
 obtain⟨a,rfl⟩:=E1j s1
 have i:∀x∈p0,x.block<W.heap.size:=by obtain⟨m,hm⟩:=h0;exact DataW.trod_lt m _ _ _ hm
 have n:∀x∈p1,x.block<W.heap.size:=by obtain⟨m,hm⟩:=h1;exact DataW.trod_lt m _ _ _ hm
 clear f d
 have hr:A0u (A2X W) [.agg u.row,I a] [.agg cs,v1]:=by simp only[A0u]at x1|-;obtain⟨y1,_,f1,g1,rfl⟩:=x1;cases f1;exact⟨_,_,rfl,x0,_,_,rfl,g1,rfl⟩
 refine Z2x (E7w hL (E7H u a hg) hr) λe W' ⟨he,bel⟩=>?_
 subst he
 exact⟨_,rfl,_,_,_,[],_,[],l,trodAll_mk1 (shut_bool Tryz.underlying4 _),(trodAll_cons_mk (Below.trod D0Z (by kernel_rfl) (Z2e (by kernel_rfl)) h0 bel i) (trodAll_cons_mk (Below.trod D0Z (by kernel_rfl) (Z2e (by kernel_rfl)) h1 bel n) trodAll_mk0)),rfl,bel.frame _,λh=>by cases h⟩
end Go.Abs
