/- A part of the proof. -/
import Derived.Test.YtmpdkagfplajjaaGreatDoorEG39
import Derived.Test.YtmpdkagfplajjaaGreatDoorEG40
import Derived.Test.YtmpdkagfplajjaaGreatDoorEG24
import Derived.Test.YtmpdkagfplajjaaGreatDoorEG17
set_option linter.all false
set_option maxRecDepth 1000000
open Go Go.Abs Go.Proofs K1
namespace K1
def D8S(f:Nat)(fn:Func)(h:Tryz.prog.funcs[f]?=some fn):B7W fn=true:=by
 have hm:fn∈Tryz.prog.funcs.toList:=by obtain⟨h1,h2⟩:=Z1N.1 h;rw[<-h2];simp
 exact Z0p.1 E2b fn hm
def E1y:(λ(args:List AV) (M:Mem)=>match D7G args (λi=>M[i]?)with|some v=>some (v,M,([]:List Nat))|none=>none)=D0b:=by funext args M;rcases args with _|⟨a,_|⟨b,t⟩⟩<;>rfl
def E1i:(λ(args:List AV) (M:Mem)=>match B8a args (λi=>M[i]?)with|some v=>some (v,M,([]:List Nat))|none=>none)=B0y:=by
 funext args M;rcases args with _|⟨a,_|⟨b,_|⟨c,t⟩⟩⟩
 .rfl
 .cases a<;>first|rfl|(rename_i v;cases v<;>rfl)
 .cases a<;>first|rfl|(rename_i v;cases v<;>first|rfl|(cases b<;>first|rfl|(rename_i u;cases u<;>first|rfl|(rename_i k n;cases k<;>rfl))))
 .cases a<;>first|rfl|(rename_i v;cases v<;>first|rfl|(cases b<;>first|rfl|(rename_i u;cases u<;>first|rfl|(rename_i k n;cases k<;>rfl))))
def E1H:C7s C0 (B2O Y0):=by
 intro f g h;unfold B2O Y0 at h;cases h1:Nat.beq f 170
 .rw[h1]at h;cases h2:Nat.beq f 344
  .rw[h2]at h;simp at h
  .rw[h2]at h;have e:=Z1E h2;subst e;simp only[Z0a]at h;rw[<-h];have:=B2F (C:=C0) Tryz.func344 rfl rfl (by kernel_rfl) (by kernel_rfl);exact E1i▸this
 .rw[h1]at h;have e:=Z1E h1;subst e;simp only[Z0a]at h;rw[<-h];have:=C5J (C:=C0) Tryz.func170 rfl rfl (by kernel_rfl) (by kernel_rfl);exact E1y▸this
def D7e:A3V C0 10 [] [] (λr m=>r=.val (.bool true)/\m=[]):=C5P (yi:=Y0) (by kernel_rfl) E1H D8S (D1R (t0:=t00) 6 rfl Tryz.func10 rfl (by kernel_rfl) E1r E3d)
end K1
