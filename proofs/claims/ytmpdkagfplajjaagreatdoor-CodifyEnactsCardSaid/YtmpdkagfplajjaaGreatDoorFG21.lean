/- A part of the proof. -/
import Derived.Test.YtmpdkagfplajjaaGreatDoorFG19
import Derived.Test.YtmpdkagfplajjaaGreatDoorProg
set_option linter.all false
set_option maxRecDepth 100000
namespace Go.Abs
open Go.Proofs Tryz
namespace TryTypes
@[simp] def E4g:A2i prog 3=some false:=by kernel_rfl
@[simp] def sz3:A1h prog 3=some 1:=by kernel_rfl
@[simp] def D6m:A0C prog 3=some [.int .i64 0]:=by kernel_rfl
def E3g:A3x prog 3 1 8:=⟨_,_,type3,rfl,rfl,rfl,rfl,by decide⟩
@[simp] def E9h:A2i prog 4=some false:=by kernel_rfl
@[simp] def sz4:A1h prog 4=some 1:=by kernel_rfl
@[simp] def E9b:A2i prog 5=some false:=by kernel_rfl
@[simp] def sz5:A1h prog 5=some 1:=by kernel_rfl
def E6M:A3x prog 5 1 1:=⟨_,_,type5,rfl,rfl,rfl,rfl,by decide⟩
@[simp] def E4j:A2i prog 9=some false:=by kernel_rfl
@[simp] def sz9:A1h prog 9=some 1:=by kernel_rfl
@[simp] def E8w:A0C prog 9=some [.string ⟨#[]⟩]:=by kernel_rfl
def B5x:A3x prog 9 1 16:=⟨_,_,type9,rfl,rfl,rfl,rfl,by decide⟩
@[simp] def E8e:A2i prog 23=some true:=by kernel_rfl
@[simp] def E9g:A1h prog 23=some 3:=by kernel_rfl
@[simp] def E5t:A1q prog 23 0=some 0:=by kernel_rfl
@[simp] def E5V:A0O prog 23 0=some (0,3):=by kernel_rfl
@[simp] def E5Q:A0O prog 23 1=some (1,3):=by kernel_rfl
@[simp] def E5v:A0O prog 23 2=some (2,3):=by kernel_rfl
@[simp] def E8k:A2Y prog 23=true:=by kernel_rfl
@[simp] def E7Q:A0C prog 23=some [.int .i64 0,.int .i64 0,.int .i64 0]:=by kernel_rfl
def D1c:A3x prog 23 3 24:=⟨_,_,type23,rfl,rfl,rfl,rfl,by decide⟩
@[simp] def E8q:A2i prog 24=some false:=by kernel_rfl
@[simp] def E8Z:A1h prog 24=some 1:=by kernel_rfl
@[simp] def B5a:A0R prog 24=some 152:=by kernel_rfl
def C2G:A4f prog 24:=.inl ⟨152,by kernel_rfl⟩
@[simp] def E6Z:A0C prog 24=some [.slice none 0 0]:=by kernel_rfl
@[simp] def E8h:A2i prog 25=some false:=by kernel_rfl
@[simp] def E9j:A1h prog 25=some 1:=by kernel_rfl
@[simp] def A8n:A0R prog 25=some 27:=by kernel_rfl
def B2L:A4f prog 25:=.inl ⟨27,by kernel_rfl⟩
@[simp] def E7s:A0C prog 25=some [.slice none 0 0]:=by kernel_rfl
@[simp] def D8H:A2i prog 27=some true:=by kernel_rfl
@[simp] def D9E:A1h prog 27=some 8:=by kernel_rfl
@[simp] def E6a:A1q prog 27 0=some 0:=by kernel_rfl
@[simp] def E6t:A1q prog 27 1=some 3:=by kernel_rfl
@[simp] def E5C:A0O prog 27 1=some (3,3):=by kernel_rfl
@[simp] def E6g:A1q prog 27 2=some 4:=by kernel_rfl
@[simp] def E5w:A0O prog 27 2=some (4,9):=by kernel_rfl
@[simp] def E5z:A1q prog 27 3=some 5:=by kernel_rfl
@[simp] def E5L:A0O prog 27 3=some (5,24):=by kernel_rfl
@[simp] def E5T:A1q prog 27 4=some 6:=by kernel_rfl
@[simp] def E5g:A0O prog 27 4=some (6,24):=by kernel_rfl
@[simp] def E5I:A1q prog 27 5=some 7:=by kernel_rfl
@[simp] def E8p:A2Y prog 27=true:=by kernel_rfl
@[simp] def C3y:A0C prog 27=some [.int .i64 0,.int .i64 0,.int .i64 0,.int .i64 0,.string ⟨#[]⟩,.slice none 0 0,.slice none 0 0,.slice none 0 0]:=by kernel_rfl
def B2H:A3x prog 27 8 120:=⟨_,_,type27,rfl,rfl,rfl,rfl,by decide⟩
@[simp] def E8G:A2i prog 28=some false:=by kernel_rfl
@[simp] def E9l:A1h prog 28=some 1:=by kernel_rfl
@[simp] def E6U:A0R prog 28=some 69:=by kernel_rfl
@[simp] def E8Q:A2i prog 37=some false:=by kernel_rfl
@[simp] def E9d:A1h prog 37=some 1:=by kernel_rfl
@[simp] def A7n:A0R prog 37=some 9:=by kernel_rfl
def A9D:A4f prog 37:=.inl ⟨9,by kernel_rfl⟩
@[simp] def E7D:A0C prog 37=some [.slice none 0 0]:=by kernel_rfl
@[simp] def C2U:A0R prog 38=some 110:=by kernel_rfl
def D0G:A4f prog 38:=.inl ⟨110,by kernel_rfl⟩
@[simp] def D5E:A0R prog 39=some 40:=by kernel_rfl
def D9c:A4f prog 39:=.inl ⟨40,by kernel_rfl⟩
@[simp] def E8s:A2i prog 40=some false:=by kernel_rfl
@[simp] def E9o:A1h prog 40=some 1:=by kernel_rfl
@[simp] def B5t:A0R prog 40=some 159:=by kernel_rfl
def C1e:A4f prog 40:=.inl ⟨159,by kernel_rfl⟩
@[simp] def E7v:A0C prog 40=some [.slice none 0 0]:=by kernel_rfl
def D8Z:A3x prog 40 1 24:=⟨_,_,type40,rfl,rfl,rfl,rfl,by decide⟩
@[simp] def E8j:A2i prog 69=some true:=by kernel_rfl
@[simp] def E9p:A1h prog 69=some 5:=by kernel_rfl
@[simp] def E5B:A1q prog 69 0=some 0:=by kernel_rfl
@[simp] def E6d:A1q prog 69 1=some 3:=by kernel_rfl
@[simp] def E6w:A1q prog 69 2=some 4:=by kernel_rfl
@[simp] def E7k:A0C prog 69=some [.int .i64 0,.int .i64 0,.int .i64 0,.int .i64 0,.string ⟨#[]⟩]:=by kernel_rfl
@[simp] def E8N:A2i prog 85=some false:=by kernel_rfl
@[simp] def E8X:A1h prog 85=some 1:=by kernel_rfl
@[simp] def C4u:A0R prog 85=some 23:=by kernel_rfl
def D0n:A4f prog 85:=.inl ⟨23,by kernel_rfl⟩
@[simp] def E6F:A0C prog 85=some [.slice none 0 0]:=by kernel_rfl
@[simp] def E8g:A2i prog 92=some false:=by kernel_rfl
@[simp] def E8Y:A1h prog 92=some 1:=by kernel_rfl
@[simp] def E8d:A2i prog 93=some false:=by kernel_rfl
@[simp] def E9e:A1h prog 93=some 1:=by kernel_rfl
@[simp] def E8R:A2i prog 94=some false:=by kernel_rfl
@[simp] def E9f:A1h prog 94=some 1:=by kernel_rfl
@[simp] def E8r:A2i prog 96=some true:=by kernel_rfl
@[simp] def E9m:A1h prog 96=some 4:=by kernel_rfl
@[simp] def E4W:A1q prog 96 0=some 0:=by kernel_rfl
@[simp] def E6u:A0O prog 96 0=some (0,28):=by kernel_rfl
@[simp] def E5p:A1q prog 96 1=some 1:=by kernel_rfl
@[simp] def E5U:A0O prog 96 1=some (1,92):=by kernel_rfl
@[simp] def E4R:A1q prog 96 2=some 2:=by kernel_rfl
@[simp] def E5r:A0O prog 96 2=some (2,93):=by kernel_rfl
@[simp] def E5X:A1q prog 96 3=some 3:=by kernel_rfl
@[simp] def E5l:A0O prog 96 3=some (3,94):=by kernel_rfl
@[simp] def E8u:A2Y prog 96=true:=by kernel_rfl
@[simp] def E8b:A0C prog 96=some [.slice none 0 0,.map none,.map none,.map none]:=by kernel_rfl
@[simp] def E7q:A2i prog 110=some true:=by kernel_rfl
@[simp] def E8P:A1h prog 110=some 5:=by kernel_rfl
@[simp] def E3A:A1q prog 110 0=some 0:=by kernel_rfl
@[simp] def E4s:A0O prog 110 0=some (0,3):=by kernel_rfl
@[simp] def E3Y:A1q prog 110 1=some 1:=by kernel_rfl
@[simp] def E3T:A0O prog 110 1=some (1,40):=by kernel_rfl
@[simp] def E2Q:A1q prog 110 2=some 2:=by kernel_rfl
@[simp] def E4x:A1q prog 110 3=some 3:=by kernel_rfl
@[simp] def E4a:A1q prog 110 4=some 4:=by kernel_rfl
@[simp] def E7H:A2Y prog 110=true:=by kernel_rfl
@[simp] def E6c:A0C prog 110=some [.int .i64 0,.slice none 0 0,.string ⟨#[]⟩,.int .i64 0,.int .i64 0]:=by kernel_rfl
def C3D:A3x prog 110 5 64:=⟨_,_,type110,rfl,rfl,rfl,rfl,by decide⟩
@[simp] def E6S:A2i prog 113=some false:=by kernel_rfl
@[simp] def E8S:A1h prog 113=some 1:=by kernel_rfl
@[simp] def E6A:A2i prog 114=some false:=by kernel_rfl
@[simp] def E8i:A1h prog 114=some 1:=by kernel_rfl
@[simp] def D7d:A0R prog 114=some 5:=by kernel_rfl
@[simp] def E8l:A1h prog 116=some 2:=by kernel_rfl
@[simp] def E4B:A1q prog 116 0=some 0:=by kernel_rfl
@[simp] def E3F:A1q prog 116 1=some 1:=by kernel_rfl
@[simp] def E6j:A0C prog 116=some [.pointer none,.slice none 0 0]:=by kernel_rfl
@[simp] def E7J:A2i prog 130=some false:=by kernel_rfl
@[simp] def E8f:A1h prog 130=some 1:=by kernel_rfl
@[simp] def D0J:A0R prog 130=some 3:=by kernel_rfl
def D4D:A4f prog 130:=.inl ⟨3,by kernel_rfl⟩
@[simp] def B4V:A0C prog 130=some [.slice none 0 0]:=by kernel_rfl
@[simp] def E7n:A2i prog 150=some true:=by kernel_rfl
@[simp] def E8o:A1h prog 150=some 3:=by kernel_rfl
@[simp] def E3O:A0O prog 150 0=some (0,3):=by kernel_rfl
@[simp] def E2J:A0O prog 150 1=some (1,3):=by kernel_rfl
@[simp] def E3i:A0O prog 150 2=some (2,3):=by kernel_rfl
@[simp] def E7L:A2Y prog 150=true:=by kernel_rfl
@[simp] def E4Z:A0C prog 150=some [.int .i64 0,.int .i64 0,.int .i64 0]:=by kernel_rfl
@[simp] def E7c:A2i prog 152=some true:=by kernel_rfl
@[simp] def E8L:A1h prog 152=some 4:=by kernel_rfl
@[simp] def E4D:A1q prog 152 0=some 0:=by kernel_rfl
@[simp] def E3e:A0O prog 152 0=some (0,9):=by kernel_rfl
@[simp] def E2w:A1q prog 152 1=some 1:=by kernel_rfl
@[simp] def E2r:A0O prog 152 1=some (1,150):=by kernel_rfl
@[simp] def E7w:A2Y prog 152=true:=by kernel_rfl
@[simp] def E5W:A0C prog 152=some [.string ⟨#[]⟩,.int .i64 0,.int .i64 0,.int .i64 0]:=by kernel_rfl
def B5W:A3x prog 152 4 40:=⟨_,_,type152,rfl,rfl,rfl,rfl,by decide⟩
@[simp] def E7x:A2i prog 159=some true:=by kernel_rfl
@[simp] def E8C:A1h prog 159=some 2:=by kernel_rfl
@[simp] def E2t:A1q prog 159 0=some 0:=by kernel_rfl
@[simp] def E3G:A0O prog 159 0=some (0,3):=by kernel_rfl
@[simp] def E2U:A1q prog 159 1=some 1:=by kernel_rfl
@[simp] def E3j:A0O prog 159 1=some (1,9):=by kernel_rfl
@[simp] def E6J:A2Y prog 159=true:=by kernel_rfl
@[simp] def E4Y:A0C prog 159=some [.int .i64 0,.string ⟨#[]⟩]:=by kernel_rfl
def B5B:A3x prog 159 2 24:=⟨_,_,type159,rfl,rfl,rfl,rfl,by decide⟩
@[simp] def E6E:A2i prog 247=some true:=by kernel_rfl
@[simp] def E8T:A1h prog 247=some 2:=by kernel_rfl
@[simp] def E3X:A0O prog 247 0=some (0,3):=by kernel_rfl
@[simp] def E3x:A0O prog 247 1=some (1,9):=by kernel_rfl
@[simp] def E7a:A2Y prog 247=true:=by kernel_rfl
@[simp] def E6b:A0C prog 247=some [.int .i64 0,.string ⟨#[]⟩]:=by kernel_rfl
end TryTypes
end Go.Abs
