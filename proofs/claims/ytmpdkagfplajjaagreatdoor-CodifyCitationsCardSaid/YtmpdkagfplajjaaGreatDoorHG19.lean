/- A part of the proof. -/
import Derived.Test.YtmpdkagfplajjaaGreatDoorHG17
import Derived.Test.YtmpdkagfplajjaaGreatDoorProg
set_option linter.all false
set_option maxRecDepth 100000
namespace Go.Abs
open Go.Proofs Tryz
namespace TryTypes
@[simp] def E4K:A2w prog 3=some false:=by kernel_rfl
@[simp] def sz3:A1u prog 3=some 1:=by kernel_rfl
@[simp] def D6G:A0H prog 3=some [.int .i64 0]:=by kernel_rfl
def E3I:A3s prog 3 1 8:=⟨_,_,type3,rfl,rfl,rfl,rfl,by decide⟩
@[simp] def F0e:A2w prog 4=some false:=by kernel_rfl
@[simp] def sz4:A1u prog 4=some 1:=by kernel_rfl
@[simp] def E9Y:A2w prog 5=some false:=by kernel_rfl
@[simp] def sz5:A1u prog 5=some 1:=by kernel_rfl
def E7E:A3s prog 5 1 1:=⟨_,_,type5,rfl,rfl,rfl,rfl,by decide⟩
@[simp] def E0Y:A2w prog 9=some false:=by kernel_rfl
@[simp] def sz9:A1u prog 9=some 1:=by kernel_rfl
@[simp] def E9r:A0H prog 9=some [.string ⟨#[]⟩]:=by kernel_rfl
def B6h:A3s prog 9 1 16:=⟨_,_,type9,rfl,rfl,rfl,rfl,by decide⟩
@[simp] def E8X:A2w prog 23=some true:=by kernel_rfl
@[simp] def F0d:A1u prog 23=some 3:=by kernel_rfl
@[simp] def E6c:A1t prog 23 0=some 0:=by kernel_rfl
@[simp] def E6I:A0K prog 23 0=some (0,3):=by kernel_rfl
@[simp] def E6D:A0K prog 23 1=some (1,3):=by kernel_rfl
@[simp] def E6e:A0K prog 23 2=some (2,3):=by kernel_rfl
@[simp] def E9e:A2G prog 23=true:=by kernel_rfl
@[simp] def E8K:A0H prog 23=some [.int .i64 0,.int .i64 0,.int .i64 0]:=by kernel_rfl
def C0u:A3s prog 23 3 24:=⟨_,_,type23,rfl,rfl,rfl,rfl,by decide⟩
@[simp] def E9l:A2w prog 24=some false:=by kernel_rfl
@[simp] def E9V:A1u prog 24=some 1:=by kernel_rfl
@[simp] def B7Z:A1f prog 24=some 152:=by kernel_rfl
def C7G:A3V prog 24:=.inl ⟨152,by kernel_rfl⟩
@[simp] def E7R:A0H prog 24=some [.slice none 0 0]:=by kernel_rfl
@[simp] def E9a:A2w prog 25=some false:=by kernel_rfl
@[simp] def F0g:A1u prog 25=some 1:=by kernel_rfl
@[simp] def A7G:A1f prog 25=some 27:=by kernel_rfl
def B2i:A3V prog 25:=.inl ⟨27,by kernel_rfl⟩
@[simp] def E8l:A0H prog 25=some [.slice none 0 0]:=by kernel_rfl
@[simp] def D4y:A2w prog 27=some true:=by kernel_rfl
@[simp] def D7G:A1u prog 27=some 8:=by kernel_rfl
@[simp] def E6O:A1t prog 27 0=some 0:=by kernel_rfl
@[simp] def E5V:A0K prog 27 0=some (0,23):=by kernel_rfl
@[simp] def E7l:A1t prog 27 1=some 3:=by kernel_rfl
@[simp] def E6n:A0K prog 27 1=some (3,3):=by kernel_rfl
@[simp] def E6V:A1t prog 27 2=some 4:=by kernel_rfl
@[simp] def E6f:A0K prog 27 2=some (4,9):=by kernel_rfl
@[simp] def E6j:A1t prog 27 3=some 5:=by kernel_rfl
@[simp] def E6y:A0K prog 27 3=some (5,24):=by kernel_rfl
@[simp] def E6G:A1t prog 27 4=some 6:=by kernel_rfl
@[simp] def E5M:A0K prog 27 4=some (6,24):=by kernel_rfl
@[simp] def E6v:A1t prog 27 5=some 7:=by kernel_rfl
@[simp] def E6i:A0K prog 27 5=some (7,25):=by kernel_rfl
@[simp] def E9k:A2G prog 27=true:=by kernel_rfl
@[simp] def C3P:A0H prog 27=some [.int .i64 0,.int .i64 0,.int .i64 0,.int .i64 0,.string ⟨#[]⟩,.slice none 0 0,.slice none 0 0,.slice none 0 0]:=by kernel_rfl
def B1T:A3s prog 27 8 120:=⟨_,_,type27,rfl,rfl,rfl,rfl,by decide⟩
@[simp] def E9C:A2w prog 28=some false:=by kernel_rfl
@[simp] def F0i:A1u prog 28=some 1:=by kernel_rfl
@[simp] def D9Y:A1f prog 28=some 69:=by kernel_rfl
def E4y:A3V prog 28:=.inl ⟨69,by kernel_rfl⟩
@[simp] def E8T:A0H prog 28=some [.slice none 0 0]:=by kernel_rfl
@[simp] def E9b:A2w prog 31=some false:=by kernel_rfl
@[simp] def E9X:A1u prog 31=some 1:=by kernel_rfl
@[simp] def E8e:A0H prog 31=some [.int .i64 0]:=by kernel_rfl
@[simp] def E9M:A2w prog 37=some false:=by kernel_rfl
@[simp] def F0a:A1u prog 37=some 1:=by kernel_rfl
@[simp] def A7g:A1f prog 37=some 9:=by kernel_rfl
def A9M:A3V prog 37:=.inl ⟨9,by kernel_rfl⟩
@[simp] def E8w:A0H prog 37=some [.slice none 0 0]:=by kernel_rfl
@[simp] def B8c:A1f prog 38=some 110:=by kernel_rfl
def C6y:A3V prog 38:=.inl ⟨110,by kernel_rfl⟩
@[simp] def D5S:A1f prog 39=some 40:=by kernel_rfl
def D9B:A3V prog 39:=.inl ⟨40,by kernel_rfl⟩
@[simp] def E9n:A2w prog 40=some false:=by kernel_rfl
@[simp] def F0l:A1u prog 40=some 1:=by kernel_rfl
@[simp] def B0J:A1f prog 40=some 159:=by kernel_rfl
def B4t:A3V prog 40:=.inl ⟨159,by kernel_rfl⟩
@[simp] def E8o:A0H prog 40=some [.slice none 0 0]:=by kernel_rfl
def D9z:A3s prog 40 1 24:=⟨_,_,type40,rfl,rfl,rfl,rfl,by decide⟩
@[simp] def E9d:A2w prog 69=some true:=by kernel_rfl
@[simp] def F0m:A1u prog 69=some 5:=by kernel_rfl
@[simp] def E6m:A1t prog 69 0=some 0:=by kernel_rfl
@[simp] def E6o:A0K prog 69 0=some (0,23):=by kernel_rfl
@[simp] def E6R:A1t prog 69 1=some 3:=by kernel_rfl
@[simp] def E5Z:A0K prog 69 1=some (3,3):=by kernel_rfl
@[simp] def E7p:A1t prog 69 2=some 4:=by kernel_rfl
@[simp] def E5Y:A0K prog 69 2=some (4,9):=by kernel_rfl
@[simp] def E9i:A2G prog 69=true:=by kernel_rfl
@[simp] def E8c:A0H prog 69=some [.int .i64 0,.int .i64 0,.int .i64 0,.int .i64 0,.string ⟨#[]⟩]:=by kernel_rfl
def E3c:A3s prog 69 5 48:=⟨_,_,type69,rfl,rfl,rfl,rfl,by decide⟩
@[simp] def E9J:A2w prog 85=some false:=by kernel_rfl
@[simp] def E9T:A1u prog 85=some 1:=by kernel_rfl
@[simp] def B4i:A1f prog 85=some 23:=by kernel_rfl
def B8y:A3V prog 85:=.inl ⟨23,by kernel_rfl⟩
@[simp] def E7x:A0H prog 85=some [.slice none 0 0]:=by kernel_rfl
@[simp] def E8Z:A2w prog 92=some false:=by kernel_rfl
@[simp] def E9U:A1u prog 92=some 1:=by kernel_rfl
@[simp] def E8W:A2w prog 93=some false:=by kernel_rfl
@[simp] def F0b:A1u prog 93=some 1:=by kernel_rfl
@[simp] def E9N:A2w prog 94=some false:=by kernel_rfl
@[simp] def F0c:A1u prog 94=some 1:=by kernel_rfl
@[simp] def E9m:A2w prog 96=some true:=by kernel_rfl
@[simp] def F0j:A1u prog 96=some 4:=by kernel_rfl
@[simp] def E5B:A1t prog 96 0=some 0:=by kernel_rfl
@[simp] def E7n:A0K prog 96 0=some (0,28):=by kernel_rfl
@[simp] def E5W:A1t prog 96 1=some 1:=by kernel_rfl
@[simp] def E6H:A0K prog 96 1=some (1,92):=by kernel_rfl
@[simp] def E5w:A1t prog 96 2=some 2:=by kernel_rfl
@[simp] def E6a:A0K prog 96 2=some (2,93):=by kernel_rfl
@[simp] def E6K:A1t prog 96 3=some 3:=by kernel_rfl
@[simp] def E5R:A0K prog 96 3=some (3,94):=by kernel_rfl
@[simp] def E9p:A2G prog 96=true:=by kernel_rfl
@[simp] def E8U:A0H prog 96=some [.slice none 0 0,.map none,.map none,.map none]:=by kernel_rfl
@[simp] def E8j:A2w prog 110=some true:=by kernel_rfl
@[simp] def E9L:A1u prog 110=some 5:=by kernel_rfl
@[simp] def E4c:A1t prog 110 0=some 0:=by kernel_rfl
@[simp] def E4W:A0K prog 110 0=some (0,3):=by kernel_rfl
@[simp] def E4C:A1t prog 110 1=some 1:=by kernel_rfl
@[simp] def E4v:A0K prog 110 1=some (1,40):=by kernel_rfl
@[simp] def E3s:A1t prog 110 2=some 2:=by kernel_rfl
@[simp] def E5b:A1t prog 110 3=some 3:=by kernel_rfl
@[simp] def E4E:A1t prog 110 4=some 4:=by kernel_rfl
@[simp] def E8A:A2G prog 110=true:=by kernel_rfl
@[simp] def E6Q:A0H prog 110=some [.int .i64 0,.slice none 0 0,.string ⟨#[]⟩,.int .i64 0,.int .i64 0]:=by kernel_rfl
def B9y:A3s prog 110 5 64:=⟨_,_,type110,rfl,rfl,rfl,rfl,by decide⟩
@[simp] def E7K:A2w prog 113=some false:=by kernel_rfl
@[simp] def E9O:A1u prog 113=some 1:=by kernel_rfl
@[simp] def E7t:A2w prog 114=some false:=by kernel_rfl
@[simp] def E9c:A1u prog 114=some 1:=by kernel_rfl
@[simp] def D7A:A1f prog 114=some 5:=by kernel_rfl
@[simp] def E9f:A1u prog 116=some 2:=by kernel_rfl
@[simp] def E5f:A1t prog 116 0=some 0:=by kernel_rfl
@[simp] def E4g:A1t prog 116 1=some 1:=by kernel_rfl
@[simp] def E6Z:A0H prog 116=some [.pointer none,.slice none 0 0]:=by kernel_rfl
@[simp] def E8D:A2w prog 130=some false:=by kernel_rfl
@[simp] def E8Y:A1u prog 130=some 1:=by kernel_rfl
@[simp] def D0L:A1f prog 130=some 3:=by kernel_rfl
def D4I:A3V prog 130:=.inl ⟨3,by kernel_rfl⟩
@[simp] def B5G:A0H prog 130=some [.slice none 0 0]:=by kernel_rfl
@[simp] def E8g:A2w prog 150=some true:=by kernel_rfl
@[simp] def E9j:A1u prog 150=some 3:=by kernel_rfl
@[simp] def E4q:A0K prog 150 0=some (0,3):=by kernel_rfl
@[simp] def E3n:A0K prog 150 1=some (1,3):=by kernel_rfl
@[simp] def E3K:A0K prog 150 2=some (2,3):=by kernel_rfl
@[simp] def E8F:A2G prog 150=true:=by kernel_rfl
@[simp] def E5E:A0H prog 150=some [.int .i64 0,.int .i64 0,.int .i64 0]:=by kernel_rfl
@[simp] def E7U:A2w prog 152=some true:=by kernel_rfl
@[simp] def E9H:A1u prog 152=some 4:=by kernel_rfl
@[simp] def E5h:A1t prog 152 0=some 0:=by kernel_rfl
@[simp] def E3F:A0K prog 152 0=some (0,9):=by kernel_rfl
@[simp] def E2Y:A1t prog 152 1=some 1:=by kernel_rfl
@[simp] def E2U:A0K prog 152 1=some (1,150):=by kernel_rfl
@[simp] def E8p:A2G prog 152=true:=by kernel_rfl
@[simp] def E6J:A0H prog 152=some [.string ⟨#[]⟩,.int .i64 0,.int .i64 0,.int .i64 0]:=by kernel_rfl
def C0B:A3s prog 152 4 40:=⟨_,_,type152,rfl,rfl,rfl,rfl,by decide⟩
@[simp] def E8q:A2w prog 159=some true:=by kernel_rfl
@[simp] def E9x:A1u prog 159=some 2:=by kernel_rfl
@[simp] def E2W:A1t prog 159 0=some 0:=by kernel_rfl
@[simp] def E4h:A0K prog 159 0=some (0,3):=by kernel_rfl
@[simp] def E3x:A1t prog 159 1=some 1:=by kernel_rfl
@[simp] def E3L:A0K prog 159 1=some (1,9):=by kernel_rfl
@[simp] def E7B:A2G prog 159=true:=by kernel_rfl
@[simp] def E5D:A0H prog 159=some [.int .i64 0,.string ⟨#[]⟩]:=by kernel_rfl
def B0T:A3s prog 159 2 24:=⟨_,_,type159,rfl,rfl,rfl,rfl,by decide⟩
@[simp] def E7w:A2w prog 247=some true:=by kernel_rfl
@[simp] def E9P:A1u prog 247=some 2:=by kernel_rfl
@[simp] def E4B:A0K prog 247 0=some (0,3):=by kernel_rfl
@[simp] def E3Z:A0K prog 247 1=some (1,9):=by kernel_rfl
@[simp] def E7S:A2G prog 247=true:=by kernel_rfl
@[simp] def E6P:A0H prog 247=some [.int .i64 0,.string ⟨#[]⟩]:=by kernel_rfl
end TryTypes
end Go.Abs
