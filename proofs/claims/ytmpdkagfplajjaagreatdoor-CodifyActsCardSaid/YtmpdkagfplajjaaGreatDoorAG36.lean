/- A part of the proof. -/
import Derived.Test.YtmpdkagfplajjaaGreatDoorAG34
import Derived.Test.YtmpdkagfplajjaaGreatDoorAG35
import Derived.Test.YtmpdkagfplajjaaGreatDoorAG21
import Derived.Test.YtmpdkagfplajjaaGreatDoorAG14
set_option linter.all false
set_option maxRecDepth 1000000
open Go Go.Abs Go.Proofs K1
namespace K1
def D5R(f:Nat)(fn:Func)(h:Tryz.prog.funcs[f]?=some fn):B8Y fn=true:=by
 have hm:fn∈Tryz.prog.funcs.toList:=by obtain⟨h1,h2⟩:=Z1N.1 h;rw[<-h2];simp
 exact Z0r.1 D9J fn hm
def D8M:(λ(args:List AV) (M:Mem)=>match D5u args (λi=>M[i]?)with|some v=>some (v,M,([]:List Nat))|none=>none)=C7R:=by funext args M;rcases args with _|⟨a,_|⟨b,t⟩⟩<;>rfl
def D9z:(λ(args:List AV) (M:Mem)=>match B8p args (λi=>M[i]?)with|some v=>some (v,M,([]:List Nat))|none=>none)=B0G:=by
 funext args M;rcases args with _|⟨a,_|⟨b,_|⟨c,t⟩⟩⟩
 .rfl
 .cases a<;>first|rfl|(rename_i v;cases v<;>rfl)
 .cases a<;>first|rfl|(rename_i v;cases v<;>first|rfl|(cases b<;>first|rfl|(rename_i u;cases u<;>first|rfl|(rename_i k n;cases k<;>rfl))))
 .cases a<;>first|rfl|(rename_i v;cases v<;>first|rfl|(cases b<;>first|rfl|(rename_i u;cases u<;>first|rfl|(rename_i k n;cases k<;>rfl))))
def D9n:C6u C0 (B2Z Y0):=by
 intro f g h;unfold B2Z Y0 at h;cases h1:Nat.beq f 170
 .rw[h1]at h;cases h2:Nat.beq f 344
  .rw[h2]at h;simp at h
  .rw[h2]at h;have e:=Z1I h2;subst e;simp only[Z0a]at h;rw[<-h];have:=B2O (C:=C0) Tryz.func344 rfl rfl (by kernel_rfl) (by kernel_rfl);exact D9z▸this
 .rw[h1]at h;have e:=Z1I h1;subst e;simp only[Z0a]at h;rw[<-h];have:=C4s (C:=C0) Tryz.func170 rfl rfl (by kernel_rfl) (by kernel_rfl);exact D8M▸this
def D4k:A5q C0 10 [] [] (λr m=>r=.val (.bool true)/\m=[]):=C3E (yi:=Y0) (by kernel_rfl) D9n D5R (C9L (t0:=t00) 6 rfl Tryz.func10 rfl (by kernel_rfl) D8v D8X)
end K1
