/- A part of the proof. -/
import Derived.Test.YtmpdkagfplajjaaGreatDoorFG39
import Derived.Test.YtmpdkagfplajjaaGreatDoorFG40
import Derived.Test.YtmpdkagfplajjaaGreatDoorFG24
import Derived.Test.YtmpdkagfplajjaaGreatDoorFG17
set_option linter.all false
set_option maxRecDepth 1000000
open Go Go.Abs Go.Proofs K1
namespace K1
def E0g(f:Nat)(fn:Func)(h:Tryz.prog.funcs[f]?=some fn):B8z fn=true:=by
 have hm:fn∈Tryz.prog.funcs.toList:=by obtain⟨h1,h2⟩:=Z1T.1 h;rw[<-h2];simp
 exact Z0t.1 E3q fn hm
def E2M:(λ(args:List AV) (M:Mem)=>match D8T args (λi=>M[i]?)with|some v=>some (v,M,([]:List Nat))|none=>none)=D1j:=by funext args M;rcases args with _|⟨a,_|⟨b,t⟩⟩<;>rfl
def E2v:(λ(args:List AV) (M:Mem)=>match B8E args (λi=>M[i]?)with|some v=>some (v,M,([]:List Nat))|none=>none)=B0P:=by
 funext args M;rcases args with _|⟨a,_|⟨b,_|⟨c,t⟩⟩⟩
 .rfl
 .cases a<;>first|rfl|(rename_i v;cases v<;>rfl)
 .cases a<;>first|rfl|(rename_i v;cases v<;>first|rfl|(cases b<;>first|rfl|(rename_i u;cases u<;>first|rfl|(rename_i k n;cases k<;>rfl))))
 .cases a<;>first|rfl|(rename_i v;cases v<;>first|rfl|(cases b<;>first|rfl|(rename_i u;cases u<;>first|rfl|(rename_i k n;cases k<;>rfl))))
def E2V:C8v C0 (B2X Y0):=by
 intro f g h;unfold B2X Y0 at h;cases h1:Nat.beq f 170
 .rw[h1]at h;cases h2:Nat.beq f 344
  .rw[h2]at h;simp at h
  .rw[h2]at h;have e:=Z1J h2;subst e;simp only[Z0a]at h;rw[<-h];have:=B2N (C:=C0) Tryz.func344 rfl rfl (by kernel_rfl) (by kernel_rfl);exact E2v▸this
 .rw[h1]at h;have e:=Z1J h1;subst e;simp only[Z0a]at h;rw[<-h];have:=C6I (C:=C0) Tryz.func170 rfl rfl (by kernel_rfl) (by kernel_rfl);exact E2M▸this
def D8s:A4d C0 10 [] [] (λr m=>r=.val (.bool true)/\m=[]):=C6O (yi:=Y0) (by kernel_rfl) E2V E0g (D3a (t0:=t00) 6 rfl Tryz.func10 rfl (by kernel_rfl) E2E E4r)
end K1
