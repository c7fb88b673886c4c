/- A part of the proof. -/
import Derived.Test.YtmpdkagfplajjaaGreatDoorHG44
import Derived.Test.YtmpdkagfplajjaaGreatDoorHG45
import Derived.Stop.Joined
set_option linter.all false
set_option maxRecDepth 1000000
namespace Go.Abs
open Go Go.Proofs Go.Proofs.YtmpdkagfplajjaaGreatDoor Go.RowKit Go.ChangeShapes Go.WideShapes Go.ChangeAt
def D2R(os:Os)(args:Array Value):((w0 os).forCall (λ_ _=>0) ⟨#[],args,[]⟩).Shaped Tryz.prog:=World.shaped_of_RefB (by kernel_rfl) (by kernel_rfl)
def D8n(os:Os)(c:os.Started)(H:Type)(enc:TypeId×Value->H):ReturnsInHanded {} Tryz.checked os 9 .any (λw args=>(Rows.codifyCitationsSpec.pre enc Tryz.prog Tryz.f9 [] false w args/\laidMetH Tryz.prog A8K w)/\sizedMet enc Tryz.prog Tryz.f9 (OpenSpec.ofChange Rows.codifyCitationsSpec) false w args) (Rows.codifyCitationsSpec.post enc Tryz.prog Tryz.f9 false true false false):=by
 refine returnsInHanded_of_change_and (C:=Tryz.checked) (X:=λw _=>laidMetH Tryz.prog A8K w) (λ_ _ _ hh h=>laidMetH.of_heap hh h) own c (by kernel_rfl) Tryz.func9 (ChangeSpec.witness_shaped (enc:=enc) (C:=Tryz.checked) (os:=os) (X:=λw _=>laidMetH Tryz.prog A8K w) false (w0 os) #[.agg #[.int .i64 0,.int .i64 0,.int .i64 0,.int .i64 0,.string ⟨#[]⟩,.slice none 0 0,.slice none 0 0,.slice none 0 0],.slice none 0 0,.slice none 0 0,.int .i64 0] 8 (World.layVars_os _ _ _) (D2R os _) (by kernel_rfl) (by kernel_rfl) (by kernel_rfl) (D6e os _)) ?_
 intro W base args ds gs g d hW _ _ hL _
 have a:∀(j:Nat) t v,Tryz.f9.params[j]?=some t->args[j]?=some v->Value.okWide Tryz.prog W .any base t v:=d
 have k:=hW
 obtain⟨p,q,f,hV,rfl,a4,ab⟩:=hW
 have hA:DataW.TrodAll enc Tryz.prog W 0 (λ_=>true) true Tryz.f9.params.toList args.toList ds p:=f
 rw[Tryz.params9]at hA a
 obtain⟨v0,a6,d0,z,p0,q0,r,rfl,rfl,h0,r0⟩:=trodAll_cons hA
 obtain⟨v1,y,d1,a5,p1,q1,rfl,rfl,rfl,h1,r1⟩:=trodAll_cons r0
 obtain⟨v2,aa,d2,a7,p2,q2,rfl,rfl,rfl,h2,r2⟩:=trodAll_cons r1
 obtain⟨v3,a9,d3,a8,p3,q3,rfl,rfl,rfl,h3,r3⟩:=trodAll_cons r2
 obtain⟨rfl,rfl,rfl⟩:=trodAll_nil r3
 obtain rfl:args=#[v0,v1,v2,v3]:=by cases args;simp_all
 obtain⟨rfl,rfl⟩:=trodVars_none hV
 obtain⟨cs,rfl,_⟩:=okWide_struct Tryz.underlying27 (a 0 27 v0 rfl rfl)
 obtain⟨b1,n1,c1,e1⟩:=okWide_slice Tryz.underlying28 (a 1 28 v1 rfl rfl)
 obtain⟨b2,n2,c2,e2⟩:=okWide_slice Tryz.underlying44 (a 2 44 v2 rfl rfl)
 obtain⟨k3,e3⟩:=okWide_int Tryz.underlying3 (a 3 3 v3 rfl rfl)
 obtain⟨a0,s0,x0⟩:=D7T (sh:=.ref 0) (by kernel_rfl) h0
 obtain⟨a1,s1,x1⟩:=C4x (sh:=.slice 5 C9l) (by kernel_rfl) (by rw[e1];rfl) h1
 obtain⟨a2,s2,x2⟩:=C4x (sh:=.slice 5 D0h) (by kernel_rfl) (by rw[e2];rfl) h2
 obtain⟨a3,s3,x3⟩:=C4x (sh:=B4F) (by kernel_rfl) (by rw[e3];rfl) h3
 obtain⟨u,rfl,hg⟩:=D8S s0
 obtain⟨l,rfl,hl,hs⟩:=D3C s1
 obtain⟨ms,rfl,hm⟩:=D6H s2
 obtain⟨b,rfl⟩:=E1i s3
 have i:∀x∈p0,x.block<W.heap.size:=by obtain⟨m,hm⟩:=h0;exact Z3V m _ _ _ hm
 have n:∀x∈p1,x.block<W.heap.size:=by obtain⟨m,hm⟩:=h1;exact Z3V m _ _ _ hm
 have o:∀x∈p2,x.block<W.heap.size:=by obtain⟨m,hm⟩:=h2;exact Z3V m _ _ _ hm
 have s:∀x∈p3,x.block<W.heap.size:=by obtain⟨m,hm⟩:=h3;exact Z3V m _ _ _ hm
 clear f d
 have hr:A0t (A3g W) [.agg u.row,.list 5 (A1L l) .no,.list 5 (A2e ms) .no,I b] [.agg cs,v1,v2,v3]:=by simp only[A0t]at x1 x2 x3|-;obtain⟨y1,_,f1,g1,rfl⟩:=x1;cases f1;obtain⟨y2,_,f2,g2,rfl⟩:=x2;cases f2;obtain⟨y3,_,f3,g3,rfl⟩:=x3;cases f3;exact⟨_,_,rfl,x0,_,_,rfl,g1,_,_,rfl,g2,_,_,rfl,g3,rfl⟩
 refine Z2B (E7M hL (E7X u l ms b hg hl hs hm) hr) λe W' ⟨he,bel⟩=>?_
 subst he
 exact⟨_,rfl,_,_,_,[],_,[],k,trodAll_mk1 (shut_bool Tryz.underlying4 _),(trodAll_cons_mk (Below.trod B7N (by kernel_rfl) (Z1M (by kernel_rfl)) h0 bel i) (trodAll_cons_mk (Below.trod B7N (by kernel_rfl) (Z1M (by kernel_rfl)) h1 bel n) (trodAll_cons_mk (Below.trod B7N (by kernel_rfl) (Z1M (by kernel_rfl)) h2 bel o) (trodAll_cons_mk (Below.trod B7N (by kernel_rfl) (Z1M (by kernel_rfl)) h3 bel s) trodAll_mk0)))),rfl,bel.frame _,λh=>by cases h⟩
end Go.Abs
