/- A part of the proof. -/
import Derived.Test.YtjmjekcaifkboaaGreatDoorQG39
import Derived.Test.YtjmjekcaifkboaaGreatDoorQG46
import Derived.Stop.Joined
set_option linter.all false
set_option maxRecDepth 1000000
namespace Go.Abs.Em
open Go Go.Proofs Go.Proofs.YtjmjekcaifkboaaGreatDoor Go.RowKit Go.ChangeShapes Go.WideShapes Go.ChangeAt
def B5n(os:Os)(args:Array Value):((w0 os).forCall (λ_ _=>0) ⟨#[],args,[]⟩).Shaped Tryz.prog:=World.shaped_of_RefB (by kernel_rfl) (by kernel_rfl)
def C2t(os:Os)(b:os.Started)(H:Type)(enc:TypeId×Value->H):ReturnsInHanded {} Tryz.checked os 4 .any (λw args=>(Rows.traceRemovedSpec.pre enc Tryz.prog Tryz.f4 [] false w args/\laidMetH Tryz.prog A5M w)/\sizedMet enc Tryz.prog Tryz.f4 (OpenSpec.ofChange Rows.traceRemovedSpec) false w args) (Rows.traceRemovedSpec.post enc Tryz.prog Tryz.f4 false true false false):=by
 refine returnsInHanded_of_change_and (C:=Tryz.checked) (X:=λw _=>laidMetH Tryz.prog A5M w) (λ_ _ _ hh h=>laidMetH.of_heap hh h) own b (by kernel_rfl) Tryz.func4 (ChangeSpec.witness_shaped (enc:=enc) (C:=Tryz.checked) (os:=os) (X:=λw _=>laidMetH Tryz.prog A5M w) false (w0 os) #[.agg #[.int .i64 0,.int .i64 0,.int .i64 0],.int .i64 0,.string ⟨#[]⟩,.slice none 0 0] 8 (World.layVars_os _ _ _) (B5n os _) (by kernel_rfl) (by kernel_rfl) (by kernel_rfl) (B9D os _)) ?_
 intro W base args ds gs f c hW _ _ hL _
 have a:∀(j:Nat) t v,Tryz.f4.params[j]?=some t->args[j]?=some v->Value.okWide Tryz.prog W .any base t v:=c
 have k:=hW
 obtain⟨p,q,d,hV,rfl,aa,a9⟩:=hW
 have hA:DataW.TrodAll enc Tryz.prog W 0 (λ_=>true) true Tryz.f4.params.toList args.toList ds p:=d
 rw[Tryz.params4]at hA a
 obtain⟨v0,a4,d0,y,p0,q0,r,rfl,rfl,h0,r0⟩:=trodAll_cons hA
 obtain⟨v1,u,d1,z,p1,q1,rfl,rfl,rfl,h1,r1⟩:=trodAll_cons r0
 obtain⟨v2,a8,d2,a5,p2,q2,rfl,rfl,rfl,h2,r2⟩:=trodAll_cons r1
 obtain⟨v3,a7,d3,a6,p3,q3,rfl,rfl,rfl,h3,r3⟩:=trodAll_cons r2
 obtain⟨rfl,rfl,rfl⟩:=trodAll_nil r3
 obtain rfl:args=#[v0,v1,v2,v3]:=by cases args;simp_all
 obtain⟨rfl,rfl⟩:=trodVars_none hV
 obtain⟨i,rfl,_⟩:=okWide_struct Tryz.underlying28 (a 0 28 v0 rfl rfl)
 obtain⟨k1,e1⟩:=okWide_int Tryz.underlying3 (a 1 3 v1 rfl rfl)
 obtain⟨k2,e2⟩:=okWide_string Tryz.underlying9 (a 2 9 v2 rfl rfl)
 obtain⟨b3,n3,c3,e3⟩:=okWide_slice Tryz.underlying22 (a 3 22 v3 rfl rfl)
 obtain⟨a0,s0,x0⟩:=C8T (sh:=D1A) (by kernel_rfl) h0
 obtain⟨a1,s1,x1⟩:=A8W (sh:=A4W) (by kernel_rfl) (by rw[e1];rfl) h1
 obtain⟨a2,s2,x2⟩:=A8W (sh:=.str) (by kernel_rfl) (by rw[e2];rfl) h2
 obtain⟨a3,s3,x3⟩:=A8W (sh:=B7G) (by kernel_rfl) (by rw[e3];rfl) h3
 obtain⟨id,rfl⟩:=D4M s0
 obtain⟨day,rfl⟩:=C3c s1
 obtain⟨purpose,rfl⟩:=C7H s2
 obtain⟨l,rfl,hl,hg⟩:=C3d s3
 have g:∀x∈p0,x.block<W.heap.size:=by obtain⟨m,hm⟩:=h0;exact Z2S m _ _ _ hm
 have n:∀x∈p1,x.block<W.heap.size:=by obtain⟨m,hm⟩:=h1;exact Z2S m _ _ _ hm
 have o:∀x∈p2,x.block<W.heap.size:=by obtain⟨m,hm⟩:=h2;exact Z2S m _ _ _ hm
 have s:∀x∈p3,x.block<W.heap.size:=by obtain⟨m,hm⟩:=h3;exact Z2S m _ _ _ hm
 clear d c
 have hr:A0v (A2w W) [.agg id.row,I day,S purpose,.list 4 (A2f l) .no] [.agg i,v1,v2,v3]:=by simp only[A0v]at x1 x2 x3|-;obtain⟨y1,_,f1,g1,rfl⟩:=x1;cases f1;obtain⟨y2,_,f2,g2,rfl⟩:=x2;cases f2;obtain⟨y3,_,f3,g3,rfl⟩:=x3;cases f3;exact⟨_,_,rfl,x0,_,_,rfl,g1,_,_,rfl,g2,_,_,rfl,g3,rfl⟩
 refine Z1E (D8L hL (D9Q id day purpose l hl hg) hr) λe W' ⟨he,bel⟩=>?_
 subst he
 exact⟨_,rfl,_,_,_,[],_,[],k,trodAll_mk1 (shut_bool Tryz.underlying4 _),(trodAll_cons_mk (Below.trod A7U (by kernel_rfl) (Z1C (by kernel_rfl)) h0 bel g) (trodAll_cons_mk (Below.trod A7U (by kernel_rfl) (Z1C (by kernel_rfl)) h1 bel n) (trodAll_cons_mk (Below.trod A7U (by kernel_rfl) (Z1C (by kernel_rfl)) h2 bel o) (trodAll_cons_mk (Below.trod A7U (by kernel_rfl) (Z1C (by kernel_rfl)) h3 bel s) trodAll_mk0)))),rfl,bel.frame _,λh=>by cases h⟩
end Go.Abs.Em
