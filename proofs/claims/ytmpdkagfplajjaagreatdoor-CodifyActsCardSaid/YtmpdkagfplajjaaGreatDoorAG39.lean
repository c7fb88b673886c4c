/- A part of the proof. -/
import Derived.Test.YtmpdkagfplajjaaGreatDoorAG37
import Derived.Test.YtmpdkagfplajjaaGreatDoorAG38
import Derived.Stop.Joined
set_option linter.all false
set_option maxRecDepth 1000000
namespace Go.Abs
open Go Go.Proofs Go.Proofs.YtmpdkagfplajjaaGreatDoor Go.RowKit Go.ChangeShapes Go.WideShapes Go.ChangeAt
def C9H(os:Os)(args:Array Value):((w0 os).forCall (λ_ _=>0) ⟨#[],args,[]⟩).Shaped Tryz.prog:=World.shaped_of_RefB (by kernel_rfl) (by kernel_rfl)
def D4i(os:Os)(c:os.Started)(H:Type)(enc:TypeId×Value->H):ReturnsInHanded {} Tryz.checked os 5 .any (λw args=>(Rows.codifyActsSpec.pre enc Tryz.prog Tryz.f5 [] false w args/\laidMetH Tryz.prog A8g w)/\sizedMet enc Tryz.prog Tryz.f5 (OpenSpec.ofChange Rows.codifyActsSpec) false w args) (Rows.codifyActsSpec.post enc Tryz.prog Tryz.f5 false true false false):=by
 refine returnsInHanded_of_change_and (C:=Tryz.checked) (X:=λw _=>laidMetH Tryz.prog A8g w) (λ_ _ _ hh h=>laidMetH.of_heap hh h) own c (by kernel_rfl) Tryz.func5 (ChangeSpec.witness_shaped (enc:=enc) (C:=Tryz.checked) (os:=os) (X:=λw _=>laidMetH Tryz.prog A8g w) false (w0 os) #[.agg #[.int .i64 0,.int .i64 0,.int .i64 0,.int .i64 0,.string ⟨#[]⟩,.slice none 0 0,.slice none 0 0,.slice none 0 0],.slice none 0 0,.slice none 0 0,.int .i64 0,.int .i64 0] 8 (World.layVars_os _ _ _) (C9H os _) (by kernel_rfl) (by kernel_rfl) (by kernel_rfl) (D0F os _)) ?_
 intro W base args ds gs i d hW _ _ hL _
 have a:∀(j:Nat) t v,Tryz.f5.params[j]?=some t->args[j]?=some v->Value.okWide Tryz.prog W .any base t v:=d
 have o:=hW
 obtain⟨p,q,f,hV,rfl,ad,af⟩:=hW
 have hA:DataW.TrodAll enc Tryz.prog W 0 (λ_=>true) true Tryz.f5.params.toList args.toList ds p:=f
 rw[Tryz.params5]at hA a
 obtain⟨v0,ae,d0,a9,p0,q0,s,rfl,rfl,h0,r0⟩:=trodAll_cons hA
 obtain⟨v1,a8,d1,ag,p1,q1,rfl,rfl,rfl,h1,r1⟩:=trodAll_cons r0
 obtain⟨v2,a6,d2,ac,p2,q2,rfl,rfl,rfl,h2,r2⟩:=trodAll_cons r1
 obtain⟨v3,a7,d3,ah,p3,q3,rfl,rfl,rfl,h3,r3⟩:=trodAll_cons r2
 obtain⟨v4,ab,d4,aa,p4,q4,rfl,rfl,rfl,h4,r4⟩:=trodAll_cons r3
 obtain⟨rfl,rfl,rfl⟩:=trodAll_nil r4
 obtain rfl:args=#[v0,v1,v2,v3,v4]:=by cases args;simp_all
 obtain⟨rfl,rfl⟩:=trodVars_none hV
 obtain⟨cs,rfl,_⟩:=okWide_struct Tryz.underlying27 (a 0 27 v0 rfl rfl)
 obtain⟨b1,n1,c1,e1⟩:=okWide_slice Tryz.underlying28 (a 1 28 v1 rfl rfl)
 obtain⟨b2,n2,c2,e2⟩:=okWide_slice Tryz.underlying44 (a 2 44 v2 rfl rfl)
 obtain⟨k3,e3⟩:=okWide_int Tryz.underlying3 (a 3 3 v3 rfl rfl)
 obtain⟨k4,e4⟩:=okWide_int Tryz.underlying3 (a 4 3 v4 rfl rfl)
 obtain⟨a0,s0,x0⟩:=D4p (sh:=.ref 0) (by kernel_rfl) h0
 obtain⟨a1,s1,x1⟩:=B6W (sh:=.slice 5 C6X) (by kernel_rfl) (by rw[e1];rfl) h1
 obtain⟨a2,s2,x2⟩:=B6W (sh:=.slice 5 C6p) (by kernel_rfl) (by rw[e2];rfl) h2
 obtain⟨a3,s3,x3⟩:=B6W (sh:=B2J) (by kernel_rfl) (by rw[e3];rfl) h3
 obtain⟨a4,s4,x4⟩:=B6W (sh:=B2J) (by kernel_rfl) (by rw[e4];rfl) h4
 obtain⟨u,rfl,hg⟩:=D4q s0
 obtain⟨l,rfl,hl,hs⟩:=D1M s1
 obtain⟨ms,rfl,hm⟩:=D2U s2
 obtain⟨b,rfl⟩:=D2m s3
 obtain⟨g,rfl⟩:=D2m s4
 have z:∀x∈p0,x.block<W.heap.size:=by obtain⟨m,hm⟩:=h0;exact Z3r m _ _ _ hm
 have r:∀x∈p1,x.block<W.heap.size:=by obtain⟨m,hm⟩:=h1;exact Z3r m _ _ _ hm
 have y:∀x∈p2,x.block<W.heap.size:=by obtain⟨m,hm⟩:=h2;exact Z3r m _ _ _ hm
 have k:∀x∈p3,x.block<W.heap.size:=by obtain⟨m,hm⟩:=h3;exact Z3r m _ _ _ hm
 have a5:∀x∈p4,x.block<W.heap.size:=by obtain⟨m,hm⟩:=h4;exact Z3r m _ _ _ hm
 clear f d
 have hr:A0q (A3A W) [.agg u.row,.list 5 (A1A l) .no,.list 5 (A2p ms) .no,I b,I g] [.agg cs,v1,v2,v3,v4]:=by simp only[A0q]at x1 x2 x3 x4|-;obtain⟨y1,_,f1,g1,rfl⟩:=x1;cases f1;obtain⟨y2,_,f2,g2,rfl⟩:=x2;cases f2;obtain⟨y3,_,f3,g3,rfl⟩:=x3;cases f3;obtain⟨y4,_,f4,g4,rfl⟩:=x4;cases f4;exact⟨_,_,rfl,x0,_,_,rfl,g1,_,_,rfl,g2,_,_,rfl,g3,_,_,rfl,g4,rfl⟩
 refine Z2D (E2S hL (E2n u l ms b g hg hl hs hm) hr) λe W' ⟨he,bel⟩=>?_
 subst he
 exact⟨_,rfl,_,_,_,[],_,[],o,trodAll_mk1 (shut_bool Tryz.underlying4 _),(trodAll_cons_mk (Below.trod B4U (by kernel_rfl) (Z1K (by kernel_rfl)) h0 bel z) (trodAll_cons_mk (Below.trod B4U (by kernel_rfl) (Z1K (by kernel_rfl)) h1 bel r) (trodAll_cons_mk (Below.trod B4U (by kernel_rfl) (Z1K (by kernel_rfl)) h2 bel y) (trodAll_cons_mk (Below.trod B4U (by kernel_rfl) (Z1K (by kernel_rfl)) h3 bel k) (trodAll_cons_mk (Below.trod B4U (by kernel_rfl) (Z1K (by kernel_rfl)) h4 bel a5) trodAll_mk0))))),rfl,bel.frame _,λh=>by cases h⟩
end Go.Abs
