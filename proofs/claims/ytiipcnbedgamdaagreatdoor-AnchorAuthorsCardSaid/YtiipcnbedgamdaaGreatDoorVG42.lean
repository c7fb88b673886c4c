/- The texts AkC, AkE, AkF, AkD0, AkD1, AkD2, AkD3, AkD4, AkD5, AkD6, AkD7, AkD8, AkD9, AkD10, AkD11, AkD12, AkL: what each proves stands at its head. -/
import Derived.Test.YtiipcnbedgamdaaGreatDoorVG41
import Derived.Test.YtiipcnbedgamdaaGreatDoorVG34
import Derived.Test.YtiipcnbedgamdaaGreatDoorVG15
section
/- Calls that awake's run makes (printed by a program). -/
set_option maxRecDepth 1000000
open Go Go.Abs Go.Proofs
namespace K1
noncomputable def e0 : Ent := ⟨24,[I 0,S [],.agg [I 1,I 1],.list 4 [[I 1,I 5,S [],.list 7 [[I 1,S [97],I 5,I 1,I 5,S [],.list 25 [[I 0,N,N,I 0,I 0,I 0,I 0,I 0,I 2,S [49],N,N,N,N,N,S [],S [],I 0,I 0,S [],I 0,I 0,I 0,S [],N],[I 0,N,N,I 0,I 0,I 0,I 0,I 0,I 2,S [50],N,.vref 3 2 4 0 3,N,N,N,S [],S [],I 0,I 0,S [],I 0,I 0,I 0,S [],N]] .full]] .full]] .full],h0,152,(B false,h0,152,[])⟩
noncomputable def e1 : Ent := ⟨24,[I 5,S [],.agg [I 1,I 1],.list 4 [[I 1,I 5,S [],.list 7 [[I 1,S [97],I 5,I 1,I 5,S [],.list 25 [[I 0,N,N,I 0,I 0,I 0,I 0,I 0,I 2,S [49],N,N,N,N,N,S [],S [],I 0,I 0,S [],I 0,I 0,I 0,S [],N],[I 0,N,N,I 0,I 0,I 0,I 0,I 0,I 2,S [50],N,.vref 3 2 4 0 3,N,N,N,S [],S [],I 0,I 0,S [],I 0,I 0,I 0,S [],N]] .full]] .full]] .full],h0,152,(B true,h0,152,[])⟩
noncomputable def e2 : Ent := ⟨9,[.agg [I 1,I 1],.list 4 [[I 1,I 5,S [],.list 7 [[I 1,S [97],I 5,I 1,I 5,S [],.list 25 [[I 0,N,N,I 0,I 0,I 0,I 0,I 0,I 2,S [49],N,N,N,N,N,S [],S [],I 0,I 0,S [],I 0,I 0,I 0,S [],N],[I 0,N,N,I 0,I 0,I 0,I 0,I 0,I 2,S [50],N,.vref 3 2 4 0 3,N,N,N,S [],S [],I 0,I 0,S [],I 0,I 0,I 0,S [],N]] .full]] .full],[I 2,I 9,S [],.list 7 [[I 2,S [98],I 9,I 1,I 9,S [],.list 25 [[I 5,.vref 0 0 2 0 1,N,I 0,I 0,I 0,I 0,I 0,I 0,S [],N,N,N,N,N,S [55],S [],I 0,I 0,S [],I 0,I 0,I 0,S [],N],[I 0,N,N,I 0,I 0,I 0,I 0,I 0,I 2,S [49],N,N,N,N,N,S [],S [],I 0,I 0,S [],I 0,I 0,I 0,S [],N]] .full]] .full]] .full],h1,8,(.tuple [I 1,I 5,B true],h1,8,[])⟩
noncomputable def e3 : Ent := ⟨27,[I 9,S [],.list 4 [[I 1,I 5,S [],.list 7 [[I 1,S [97],I 5,I 1,I 5,S [],.list 25 [[I 0,N,N,I 0,I 0,I 0,I 0,I 0,I 2,S [49],N,N,N,N,N,S [],S [],I 0,I 0,S [],I 0,I 0,I 0,S [],N],[I 0,N,N,I 0,I 0,I 0,I 0,I 0,I 2,S [50],N,.vref 11 2 4 0 3,N,N,N,S [],S [],I 0,I 0,S [],I 0,I 0,I 0,S [],N]] .full]] .full],[I 2,I 9,S [],.list 7 [[I 2,S [98],I 9,I 1,I 9,S [],.list 25 [[I 5,.vref 8 0 2 0 1,N,I 0,I 0,I 0,I 0,I 0,I 0,S [],N,N,N,N,N,S [55],S [],I 0,I 0,S [],I 0,I 0,I 0,S [],N],[I 0,N,N,I 0,I 0,I 0,I 0,I 0,I 2,S [49],N,N,N,N,N,S [],S [],I 0,I 0,S [],I 0,I 0,I 0,S [],N]] .full]] .full]] .full],h2,18,(.agg [I 0,I 0,I 0,I 0,S [],N,N,.vref 433 2 8 0 3],h3,437,[])⟩
noncomputable def e4 : Ent := ⟨24,[I 0,S [],.agg [I 1,I 1],.list 4 [[I 1,I 5,S [],.list 7 [[I 1,S [97],I 5,I 1,I 5,S [],.list 25 [[I 0,N,N,I 0,I 0,I 0,I 0,I 0,I 2,S [49],N,N,N,N,N,S [],S [],I 0,I 0,S [],I 0,I 0,I 0,S [],N],[I 0,N,N,I 0,I 0,I 0,I 0,I 0,I 2,S [50],N,.vref 11 2 4 0 3,N,N,N,S [],S [],I 0,I 0,S [],I 0,I 0,I 0,S [],N]] .full]] .full]] .full],h4,708,(B false,h4,708,[])⟩
noncomputable def e5 : Ent := ⟨24,[I 5,S [],.agg [I 1,I 1],.list 4 [[I 1,I 5,S [],.list 7 [[I 1,S [97],I 5,I 1,I 5,S [],.list 25 [[I 0,N,N,I 0,I 0,I 0,I 0,I 0,I 2,S [49],N,N,N,N,N,S [],S [],I 0,I 0,S [],I 0,I 0,I 0,S [],N],[I 0,N,N,I 0,I 0,I 0,I 0,I 0,I 2,S [50],N,.vref 11 2 4 0 3,N,N,N,S [],S [],I 0,I 0,S [],I 0,I 0,I 0,S [],N]] .full]] .full]] .full],h4,708,(B true,h4,708,[])⟩
noncomputable def e6 : Ent := ⟨9,[.agg [I 1,I 1],.list 4 [[I 1,I 5,S [],.list 7 [[I 1,S [97],I 5,I 1,I 5,S [],.list 25 [[I 0,N,N,I 0,I 0,I 0,I 0,I 0,I 2,S [49],N,N,N,N,N,S [],S [],I 0,I 0,S [],I 0,I 0,I 0,S [],N],[I 0,N,N,I 0,I 0,I 0,I 0,I 0,I 2,S [50],N,.vref 11 2 4 0 3,N,N,N,S [],S [],I 0,I 0,S [],I 0,I 0,I 0,S [],N]] .full]] .full],[I 2,I 9,S [],.list 7 [[I 2,S [98],I 9,I 1,I 9,S [],.list 25 [[I 5,.vref 8 0 2 0 1,N,I 0,I 0,I 0,I 0,I 0,I 0,S [],N,N,N,N,N,S [55],S [],I 0,I 0,S [],I 0,I 0,I 0,S [],N],[I 0,N,N,I 0,I 0,I 0,I 0,I 0,I 2,S [49],N,N,N,N,N,S [],S [],I 0,I 0,S [],I 0,I 0,I 0,S [],N]] .full]] .full]] .full],h5,564,(.tuple [I 1,I 5,B true],h5,564,[])⟩
noncomputable def e7 : Ent := ⟨82,[I 5,S [],.agg [I 1,I 1],.list 4 [[I 1,I 5,S [],.list 7 [[I 1,S [97],I 5,I 1,I 5,S [],.list 25 [[I 0,N,N,I 0,I 0,I 0,I 0,I 0,I 2,S [49],N,N,N,N,N,S [],S [],I 0,I 0,S [],I 0,I 0,I 0,S [],N],[I 0,N,N,I 0,I 0,I 0,I 0,I 0,I 2,S [50],N,.vref 11 2 4 0 3,N,N,N,S [],S [],I 0,I 0,S [],I 0,I 0,I 0,S [],N]] .full]] .full]] .full],h6,612,(.agg [I 0,I 0,I 0,I 0,S [],N,N,.vref 823 2 8 0 2],h7,827,[])⟩
noncomputable def e8 : Ent := ⟨27,[I 9,S [],.list 4 [[I 1,I 5,S [],.list 7 [[I 1,S [97],I 5,I 1,I 5,S [],.list 25 [[I 0,N,N,I 0,I 0,I 0,I 0,I 0,I 2,S [49],N,N,N,N,N,S [],S [],I 0,I 0,S [],I 0,I 0,I 0,S [],N],[I 0,N,N,I 0,I 0,I 0,I 0,I 0,I 2,S [50],N,.vref 842 2 4 0 3,N,N,N,S [],S [],I 0,I 0,S [],I 0,I 0,I 0,S [],N]] .full]] .full],[I 2,I 9,S [],.list 7 [[I 2,S [98],I 9,I 1,I 9,S [],.list 25 [[I 5,.vref 839 0 2 0 1,N,I 0,I 0,I 0,I 0,I 0,I 0,S [],N,N,N,N,N,S [55],S [],I 0,I 0,S [],I 0,I 0,I 0,S [],N],[I 0,N,N,I 0,I 0,I 0,I 0,I 0,I 2,S [49],N,N,N,N,N,S [],S [],I 0,I 0,S [],I 0,I 0,I 0,S [],N]] .full]] .full]] .full],h8,850,(.agg [I 0,I 0,I 0,I 0,S [],N,N,.vref 1265 2 8 0 3],h9,1269,[])⟩
noncomputable def e9 : Ent := ⟨24,[I 0,S [],.agg [I 1,I 1],.list 4 [[I 1,I 5,S [],.list 7 [[I 1,S [97],I 5,I 1,I 5,S [],.list 25 [[I 0,N,N,I 0,I 0,I 0,I 0,I 0,I 2,S [49],N,N,N,N,N,S [],S [],I 0,I 0,S [],I 0,I 0,I 0,S [],N],[I 0,N,N,I 0,I 0,I 0,I 0,I 0,I 2,S [50],N,.vref 842 2 4 0 3,N,N,N,S [],S [],I 0,I 0,S [],I 0,I 0,I 0,S [],N]] .full]] .full]] .full],h10,1477,(B false,h10,1477,[])⟩
noncomputable def e10 : Ent := ⟨24,[I 5,S [],.agg [I 1,I 1],.list 4 [[I 1,I 5,S [],.list 7 [[I 1,S [97],I 5,I 1,I 5,S [],.list 25 [[I 0,N,N,I 0,I 0,I 0,I 0,I 0,I 2,S [49],N,N,N,N,N,S [],S [],I 0,I 0,S [],I 0,I 0,I 0,S [],N],[I 0,N,N,I 0,I 0,I 0,I 0,I 0,I 2,S [50],N,.vref 842 2 4 0 3,N,N,N,S [],S [],I 0,I 0,S [],I 0,I 0,I 0,S [],N]] .full]] .full]] .full],h10,1477,(B true,h10,1477,[])⟩
noncomputable def e11 : Ent := ⟨9,[.agg [I 1,I 1],.list 4 [[I 1,I 5,S [],.list 7 [[I 1,S [97],I 5,I 1,I 5,S [],.list 25 [[I 0,N,N,I 0,I 0,I 0,I 0,I 0,I 2,S [49],N,N,N,N,N,S [],S [],I 0,I 0,S [],I 0,I 0,I 0,S [],N],[I 0,N,N,I 0,I 0,I 0,I 0,I 0,I 2,S [50],N,.vref 842 2 4 0 3,N,N,N,S [],S [],I 0,I 0,S [],I 0,I 0,I 0,S [],N]] .full]] .full],[I 2,I 9,S [],.list 7 [[I 2,S [98],I 9,I 1,I 9,S [],.list 25 [[I 5,.vref 839 0 2 0 1,N,I 0,I 0,I 0,I 0,I 0,I 0,S [],N,N,N,N,N,S [55],S [],I 0,I 0,S [],I 0,I 0,I 0,S [],N],[I 0,N,N,I 0,I 0,I 0,I 0,I 0,I 2,S [49],N,N,N,N,N,S [],S [],I 0,I 0,S [],I 0,I 0,I 0,S [],N]] .full]] .full]] .full],h11,1333,(.tuple [I 1,I 5,B true],h11,1333,[])⟩
noncomputable def e12 : Ent := ⟨82,[I 5,S [],.agg [I 1,I 1],.list 4 [[I 1,I 5,S [],.list 7 [[I 1,S [97],I 5,I 1,I 5,S [],.list 25 [[I 0,N,N,I 0,I 0,I 0,I 0,I 0,I 2,S [49],N,N,N,N,N,S [],S [],I 0,I 0,S [],I 0,I 0,I 0,S [],N],[I 0,N,N,I 0,I 0,I 0,I 0,I 0,I 2,S [50],N,.vref 842 2 4 0 3,N,N,N,S [],S [],I 0,I 0,S [],I 0,I 0,I 0,S [],N]] .full]] .full]] .full],h12,1381,(.agg [I 0,I 0,I 0,I 0,S [],N,N,.vref 1592 2 8 0 2],h13,1596,[])⟩
end K1
end
section
/- The layers of what has been run before. -/
set_option maxRecDepth 1000000
open Go Go.Abs Go.Proofs
namespace K1
def S1 (f : Nat) : Bool := match Nat.beq f 24 with
  | true => true
  | false => match Nat.beq f 27 with
    | true => true
    | false => Nat.beq f 82
noncomputable def ents1 : List Ent := [e0, e1, e3, e4, e5, e7, e8, e9, e10, e12]
noncomputable def Y2 : EIntr := memoY S1 ents1 Y1
def S2 (f : Nat) : Bool := Nat.beq f 9
noncomputable def ents2 : List Ent := [e2, e6, e11]
noncomputable def Y3 : EIntr := memoY S2 ents2 Y2
end K1
end
section
/- awake, run. -/
set_option maxRecDepth 1000000
open Go Go.Abs Go.Proofs
namespace K1
theorem awakeRun : eTrue C0 Y3 4000 60 4 = true := by kernel_rfl
end K1
end
section
/- A call that awake makes, run. -/
set_option maxRecDepth 1000000
open Go Go.Abs Go.Proofs
namespace K1
theorem run0 : eCall C0 Y1 4000 60 e0.f e0.args e0.h e0.n = some e0.r := by kernel_rfl
end K1
end
section
/- A call that awake makes, run. -/
set_option maxRecDepth 1000000
open Go Go.Abs Go.Proofs
namespace K1
theorem run1 : eCall C0 Y1 4000 60 e1.f e1.args e1.h e1.n = some e1.r := by kernel_rfl
end K1
end
section
/- A call that awake makes, run. -/
set_option maxRecDepth 1000000
open Go Go.Abs Go.Proofs
namespace K1
theorem run2 : eCall C0 Y2 4000 60 e2.f e2.args e2.h e2.n = some e2.r := by kernel_rfl
end K1
end
section
/- A call that awake makes, run. -/
set_option maxRecDepth 1000000
open Go Go.Abs Go.Proofs
namespace K1
theorem run3 : eCall C0 Y1 4000 60 e3.f e3.args e3.h e3.n = some e3.r := by kernel_rfl
end K1
end
section
/- A call that awake makes, run. -/
set_option maxRecDepth 1000000
open Go Go.Abs Go.Proofs
namespace K1
theorem run4 : eCall C0 Y1 4000 60 e4.f e4.args e4.h e4.n = some e4.r := by kernel_rfl
end K1
end
section
/- A call that awake makes, run. -/
set_option maxRecDepth 1000000
open Go Go.Abs Go.Proofs
namespace K1
theorem run5 : eCall C0 Y1 4000 60 e5.f e5.args e5.h e5.n = some e5.r := by kernel_rfl
end K1
end
section
/- A call that awake makes, run. -/
set_option maxRecDepth 1000000
open Go Go.Abs Go.Proofs
namespace K1
theorem run6 : eCall C0 Y2 4000 60 e6.f e6.args e6.h e6.n = some e6.r := by kernel_rfl
end K1
end
section
/- A call that awake makes, run. -/
set_option maxRecDepth 1000000
open Go Go.Abs Go.Proofs
namespace K1
theorem run7 : eCall C0 Y1 4000 60 e7.f e7.args e7.h e7.n = some e7.r := by kernel_rfl
end K1
end
section
/- A call that awake makes, run. -/
set_option maxRecDepth 1000000
open Go Go.Abs Go.Proofs
namespace K1
theorem run8 : eCall C0 Y1 4000 60 e8.f e8.args e8.h e8.n = some e8.r := by kernel_rfl
end K1
end
section
/- A call that awake makes, run. -/
set_option maxRecDepth 1000000
open Go Go.Abs Go.Proofs
namespace K1
theorem run9 : eCall C0 Y1 4000 60 e9.f e9.args e9.h e9.n = some e9.r := by kernel_rfl
end K1
end
section
/- A call that awake makes, run. -/
set_option maxRecDepth 1000000
open Go Go.Abs Go.Proofs
namespace K1
theorem run10 : eCall C0 Y1 4000 60 e10.f e10.args e10.h e10.n = some e10.r := by kernel_rfl
end K1
end
section
/- A call that awake makes, run. -/
set_option maxRecDepth 1000000
open Go Go.Abs Go.Proofs
namespace K1
theorem run11 : eCall C0 Y2 4000 60 e11.f e11.args e11.h e11.n = some e11.r := by kernel_rfl
end K1
end
section
/- A call that awake makes, run. -/
set_option maxRecDepth 1000000
open Go Go.Abs Go.Proofs
namespace K1
theorem run12 : eCall C0 Y1 4000 60 e12.f e12.args e12.h e12.n = some e12.r := by kernel_rfl
end K1
end
section
/- Every function's slots lie in its frame. -/
set_option maxRecDepth 1000000
open Go Go.Abs Go.Proofs K1
namespace K1
theorem okAll : Tryz.prog.funcs.toList.all okFunc = true := by kernel_rfl
end K1
end
