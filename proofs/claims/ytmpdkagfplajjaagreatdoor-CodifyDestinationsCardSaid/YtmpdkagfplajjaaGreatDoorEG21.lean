/- A part of the proof. -/
import Derived.Test.YtmpdkagfplajjaaGreatDoorEG19
import Derived.Test.YtmpdkagfplajjaaGreatDoorProg
set_option linter.all false
set_option maxRecDepth 100000
namespace Go.Abs
open Go.Proofs Tryz
namespace TryTypes
@[simp] def E2S:A2e prog 3=some false:=by kernel_rfl
@[simp] def sz3:A1b prog 3=some 1:=by kernel_rfl
@[simp] def D5a:A0z prog 3=some [.int .i64 0]:=by kernel_rfl
def E1R:A3j prog 3 1 8:=⟨_,_,type3,rfl,rfl,rfl,rfl,by decide⟩
@[simp] def E7U:A2e prog 4=some false:=by kernel_rfl
@[simp] def sz4:A1b prog 4=some 1:=by kernel_rfl
@[simp] def E7O:A2e prog 5=some false:=by kernel_rfl
@[simp] def sz5:A1b prog 5=some 1:=by kernel_rfl
def E5z:A3j prog 5 1 1:=⟨_,_,type5,rfl,rfl,rfl,rfl,by decide⟩
@[simp] def E2V:A2e prog 9=some false:=by kernel_rfl
@[simp] def sz9:A1b prog 9=some 1:=by kernel_rfl
@[simp] def E7j:A0z prog 9=some [.string ⟨#[]⟩]:=by kernel_rfl
def B8l:A3j prog 9 1 16:=⟨_,_,type9,rfl,rfl,rfl,rfl,by decide⟩
@[simp] def E6R:A2e prog 23=some true:=by kernel_rfl
@[simp] def E7T:A1b prog 23=some 3:=by kernel_rfl
@[simp] def E4f:A1j prog 23 0=some 0:=by kernel_rfl
@[simp] def E4I:A0N prog 23 0=some (0,3):=by kernel_rfl
@[simp] def E4D:A0N prog 23 1=some (1,3):=by kernel_rfl
@[simp] def E4h:A0N prog 23 2=some (2,3):=by kernel_rfl
@[simp] def E6X:A2P prog 23=true:=by kernel_rfl
@[simp] def E6E:A0z prog 23=some [.int .i64 0,.int .i64 0,.int .i64 0]:=by kernel_rfl
def D4I:A3j prog 23 3 24:=⟨_,_,type23,rfl,rfl,rfl,rfl,by decide⟩
@[simp] def E7d:A2e prog 24=some false:=by kernel_rfl
@[simp] def E7M:A1b prog 24=some 1:=by kernel_rfl
@[simp] def C1Z:A0S prog 24=some 152:=by kernel_rfl
def C9U:A3W prog 24:=.inl ⟨152,by kernel_rfl⟩
@[simp] def E5N:A0z prog 24=some [.slice none 0 0]:=by kernel_rfl
@[simp] def E6U:A2e prog 25=some false:=by kernel_rfl
@[simp] def E7W:A1b prog 25=some 1:=by kernel_rfl
@[simp] def A8T:A0S prog 25=some 27:=by kernel_rfl
def B4o:A3W prog 25:=.inl ⟨27,by kernel_rfl⟩
@[simp] def E6g:A0z prog 25=some [.slice none 0 0]:=by kernel_rfl
@[simp] def D7u:A2e prog 27=some true:=by kernel_rfl
@[simp] def D8o:A1b prog 27=some 8:=by kernel_rfl
@[simp] def E4N:A1j prog 27 0=some 0:=by kernel_rfl
@[simp] def E5g:A1j prog 27 1=some 3:=by kernel_rfl
@[simp] def E4p:A0N prog 27 1=some (3,3):=by kernel_rfl
@[simp] def E4T:A1j prog 27 2=some 4:=by kernel_rfl
@[simp] def E4i:A0N prog 27 2=some (4,9):=by kernel_rfl
@[simp] def E4l:A1j prog 27 3=some 5:=by kernel_rfl
@[simp] def E4y:A0N prog 27 3=some (5,24):=by kernel_rfl
@[simp] def E4G:A1j prog 27 4=some 6:=by kernel_rfl
@[simp] def E3S:A0N prog 27 4=some (6,24):=by kernel_rfl
@[simp] def E4v:A1j prog 27 5=some 7:=by kernel_rfl
@[simp] def E7c:A2P prog 27=true:=by kernel_rfl
@[simp] def C2G:A0z prog 27=some [.int .i64 0,.int .i64 0,.int .i64 0,.int .i64 0,.string ⟨#[]⟩,.slice none 0 0,.slice none 0 0,.slice none 0 0]:=by kernel_rfl
def B3R:A3j prog 27 8 120:=⟨_,_,type27,rfl,rfl,rfl,rfl,by decide⟩
@[simp] def E7t:A2e prog 28=some false:=by kernel_rfl
@[simp] def E7Y:A1b prog 28=some 1:=by kernel_rfl
@[simp] def E5I:A0S prog 28=some 69:=by kernel_rfl
@[simp] def E7D:A2e prog 37=some false:=by kernel_rfl
@[simp] def E7Q:A1b prog 37=some 1:=by kernel_rfl
@[simp] def A8j:A0S prog 37=some 9:=by kernel_rfl
def B0S:A3W prog 37:=.inl ⟨9,by kernel_rfl⟩
@[simp] def E6r:A0z prog 37=some [.slice none 0 0]:=by kernel_rfl
@[simp] def C2c:A0S prog 38=some 110:=by kernel_rfl
def C9z:A3W prog 38:=.inl ⟨110,by kernel_rfl⟩
@[simp] def D4n:A0S prog 39=some 40:=by kernel_rfl
def D7P:A3W prog 39:=.inl ⟨40,by kernel_rfl⟩
@[simp] def E7f:A2e prog 40=some false:=by kernel_rfl
@[simp] def E8b:A1b prog 40=some 1:=by kernel_rfl
@[simp] def B5k:A0S prog 40=some 159:=by kernel_rfl
def C0u:A3W prog 40:=.inl ⟨159,by kernel_rfl⟩
@[simp] def E6j:A0z prog 40=some [.slice none 0 0]:=by kernel_rfl
def D7M:A3j prog 40 1 24:=⟨_,_,type40,rfl,rfl,rfl,rfl,by decide⟩
@[simp] def E6W:A2e prog 69=some true:=by kernel_rfl
@[simp] def E8c:A1b prog 69=some 5:=by kernel_rfl
@[simp] def E4o:A1j prog 69 0=some 0:=by kernel_rfl
@[simp] def E4Q:A1j prog 69 1=some 3:=by kernel_rfl
@[simp] def E5j:A1j prog 69 2=some 4:=by kernel_rfl
@[simp] def E5Y:A0z prog 69=some [.int .i64 0,.int .i64 0,.int .i64 0,.int .i64 0,.string ⟨#[]⟩]:=by kernel_rfl
@[simp] def E7A:A2e prog 85=some false:=by kernel_rfl
@[simp] def E7K:A1b prog 85=some 1:=by kernel_rfl
@[simp] def C8Q:A0S prog 85=some 23:=by kernel_rfl
def D2M:A3W prog 85:=.inl ⟨23,by kernel_rfl⟩
@[simp] def E5s:A0z prog 85=some [.slice none 0 0]:=by kernel_rfl
@[simp] def E6T:A2e prog 92=some false:=by kernel_rfl
@[simp] def E7L:A1b prog 92=some 1:=by kernel_rfl
@[simp] def E6Q:A2e prog 93=some false:=by kernel_rfl
@[simp] def E7R:A1b prog 93=some 1:=by kernel_rfl
@[simp] def E7E:A2e prog 94=some false:=by kernel_rfl
@[simp] def E7S:A1b prog 94=some 1:=by kernel_rfl
@[simp] def E7e:A2e prog 96=some true:=by kernel_rfl
@[simp] def E7Z:A1b prog 96=some 4:=by kernel_rfl
@[simp] def E3I:A1j prog 96 0=some 0:=by kernel_rfl
@[simp] def E5h:A0N prog 96 0=some (0,28):=by kernel_rfl
@[simp] def E4b:A1j prog 96 1=some 1:=by kernel_rfl
@[simp] def E4H:A0N prog 96 1=some (1,92):=by kernel_rfl
@[simp] def E3D:A1j prog 96 2=some 2:=by kernel_rfl
@[simp] def E4d:A0N prog 96 2=some (2,93):=by kernel_rfl
@[simp] def E4K:A1j prog 96 3=some 3:=by kernel_rfl
@[simp] def E3X:A0N prog 96 3=some (3,94):=by kernel_rfl
@[simp] def E7h:A2P prog 96=true:=by kernel_rfl
@[simp] def E6O:A0z prog 96=some [.slice none 0 0,.map none,.map none,.map none]:=by kernel_rfl
@[simp] def E6e:A2e prog 110=some true:=by kernel_rfl
@[simp] def E7C:A1b prog 110=some 5:=by kernel_rfl
@[simp] def E2l:A1j prog 110 0=some 0:=by kernel_rfl
@[simp] def E3e:A0N prog 110 0=some (0,3):=by kernel_rfl
@[simp] def E2K:A1j prog 110 1=some 1:=by kernel_rfl
@[simp] def E2F:A0N prog 110 1=some (1,40):=by kernel_rfl
@[simp] def E1C:A1j prog 110 2=some 2:=by kernel_rfl
@[simp] def E3j:A1j prog 110 3=some 3:=by kernel_rfl
@[simp] def E2M:A1j prog 110 4=some 4:=by kernel_rfl
@[simp] def E6v:A2P prog 110=true:=by kernel_rfl
@[simp] def E4P:A0z prog 110=some [.int .i64 0,.slice none 0 0,.string ⟨#[]⟩,.int .i64 0,.int .i64 0]:=by kernel_rfl
def C2L:A3j prog 110 5 64:=⟨_,_,type110,rfl,rfl,rfl,rfl,by decide⟩
@[simp] def E5G:A2e prog 113=some false:=by kernel_rfl
@[simp] def E7F:A1b prog 113=some 1:=by kernel_rfl
@[simp] def E5n:A2e prog 114=some false:=by kernel_rfl
@[simp] def E6V:A1b prog 114=some 1:=by kernel_rfl
@[simp] def D5U:A0S prog 114=some 5:=by kernel_rfl
@[simp] def E6Y:A1b prog 116=some 2:=by kernel_rfl
@[simp] def E3n:A1j prog 116 0=some 0:=by kernel_rfl
@[simp] def E2r:A1j prog 116 1=some 1:=by kernel_rfl
@[simp] def E4W:A0z prog 116=some [.pointer none,.slice none 0 0]:=by kernel_rfl
@[simp] def E6x:A2e prog 130=some false:=by kernel_rfl
@[simp] def E6S:A1b prog 130=some 1:=by kernel_rfl
@[simp] def C9D:A0S prog 130=some 3:=by kernel_rfl
def D3m:A3W prog 130:=.inl ⟨3,by kernel_rfl⟩
@[simp] def B4L:A0z prog 130=some [.slice none 0 0]:=by kernel_rfl
@[simp] def E6b:A2e prog 150=some true:=by kernel_rfl
@[simp] def E7b:A1b prog 150=some 3:=by kernel_rfl
@[simp] def E2A:A0N prog 150 0=some (0,3):=by kernel_rfl
@[simp] def E1w:A0N prog 150 1=some (1,3):=by kernel_rfl
@[simp] def E1T:A0N prog 150 2=some (2,3):=by kernel_rfl
@[simp] def E6z:A2P prog 150=true:=by kernel_rfl
@[simp] def E3L:A0z prog 150=some [.int .i64 0,.int .i64 0,.int .i64 0]:=by kernel_rfl
@[simp] def E5Q:A2e prog 152=some true:=by kernel_rfl
@[simp] def E7y:A1b prog 152=some 4:=by kernel_rfl
@[simp] def E3p:A1j prog 152 0=some 0:=by kernel_rfl
@[simp] def E1P:A0N prog 152 0=some (0,9):=by kernel_rfl
@[simp] def E1j:A1j prog 152 1=some 1:=by kernel_rfl
@[simp] def E1e:A0N prog 152 1=some (1,150):=by kernel_rfl
@[simp] def E6k:A2P prog 152=true:=by kernel_rfl
@[simp] def E4J:A0z prog 152=some [.string ⟨#[]⟩,.int .i64 0,.int .i64 0,.int .i64 0]:=by kernel_rfl
def C3G:A3j prog 152 4 40:=⟨_,_,type152,rfl,rfl,rfl,rfl,by decide⟩
@[simp] def E6l:A2e prog 159=some true:=by kernel_rfl
@[simp] def E7p:A1b prog 159=some 2:=by kernel_rfl
@[simp] def E1g:A1j prog 159 0=some 0:=by kernel_rfl
@[simp] def E2s:A0N prog 159 0=some (0,3):=by kernel_rfl
@[simp] def E1G:A1j prog 159 1=some 1:=by kernel_rfl
@[simp] def E1U:A0N prog 159 1=some (1,9):=by kernel_rfl
@[simp] def E5w:A2P prog 159=true:=by kernel_rfl
@[simp] def E3K:A0z prog 159=some [.int .i64 0,.string ⟨#[]⟩]:=by kernel_rfl
def B5q:A3j prog 159 2 24:=⟨_,_,type159,rfl,rfl,rfl,rfl,by decide⟩
@[simp] def E5r:A2e prog 247=some true:=by kernel_rfl
@[simp] def E7G:A1b prog 247=some 2:=by kernel_rfl
@[simp] def E2J:A0N prog 247 0=some (0,3):=by kernel_rfl
@[simp] def E2i:A0N prog 247 1=some (1,9):=by kernel_rfl
@[simp] def E5O:A2P prog 247=true:=by kernel_rfl
@[simp] def E4O:A0z prog 247=some [.int .i64 0,.string ⟨#[]⟩]:=by kernel_rfl
end TryTypes
end Go.Abs
