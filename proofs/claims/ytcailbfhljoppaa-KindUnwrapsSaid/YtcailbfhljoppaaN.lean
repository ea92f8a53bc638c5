import Derived.Test.YtcailbfhljoppaaProg
import Derived.Test.YtcailbfhljoppaaE
import Derived.KernelRfl
/-! names for the numbers of this translation; printed by gen.py -/
namespace Go.Proofs.Ytcailbfhljoppaa
noncomputable abbrev P : Program := Try.prog
namespace F
abbrev squinchlaw03_KindRight : Nat := 3
abbrev squinchlaw03_KindElems : Nat := 4
abbrev squinchlaw03_KindParts : Nat := 5
abbrev squinchlaw03_KindNames : Nat := 6
abbrev squinchlaw03_KindArrays : Nat := 7
abbrev squinchlaw03_KindUnwraps : Nat := 8
abbrev squinchlaw03_awake : Nat := 9
abbrev kind_Right : Nat := 10
abbrev squinchref03_Right : Nat := 11
abbrev kind_Name : Nat := 12
abbrev squinchref03_Name : Nat := 13
abbrev kind_Plain : Nat := 14
abbrev squinchref03_Plain : Nat := 15
abbrev kind_Class : Nat := 16
abbrev squinchref03_Class : Nat := 17
abbrev squinchref03_Deep : Nat := 18
abbrev kind_Elem : Nat := 19
abbrev squinchref03_Elem : Nat := 20
abbrev kind_Deep : Nat := 21
abbrev kind_Parts : Nat := 22
abbrev squinchref03_Parts : Nat := 23
abbrev kind_Of : Nat := 24
abbrev kind_base : Nat := 25
abbrev kind_all : Nat := 26
abbrev kind_Name_1 : Nat := 27
abbrev kind_great : Nat := 28
abbrev kind_small : Nat := 29
abbrev strings_CutSuffix : Nat := 30
abbrev strings_Cut : Nat := 31
abbrev squinchref03_Member : Nat := 32
abbrev strings_HasSuffix : Nat := 33
abbrev strings_TrimSuffix : Nat := 34
abbrev stringslite_CutSuffix : Nat := 35
abbrev stringslite_Cut : Nat := 36
abbrev stringslite_HasSuffix : Nat := 37
abbrev stringslite_TrimSuffix : Nat := 38
abbrev stringslite_Index : Nat := 39
abbrev stringslite_IndexByte : Nat := 40
abbrev bytealg_IndexString : Nat := 41
abbrev bytealg_Cutover : Nat := 42
abbrev bytealg_IndexRabinKarp_string : Nat := 43
abbrev bytealg_IndexByteString : Nat := 44
abbrev bytealg_hashStr_string : Nat := 45
end F
namespace T
abbrev x : Nat := 0
abbrev int : Nat := 3
abbrev bool : Nat := 4
abbrev uint8 : Nat := 5
abbrev string : Nat := 9
abbrev int32 : Nat := 21
abbrev api_Errno : Nat := 26
abbrev uint32 : Nat := 46
end T
namespace G
abbrev bytealg_MaxLen : Nat := 0
end G
end Go.Proofs.Ytcailbfhljoppaa
