/- The functions of the seat as formulas, each enough for its call (printed by seat.py of this session). Conditions: none. -/
import Derived.Test.YtpmpgmjllagomaaProg
import Derived.Test.YtpmpgmjllagomaaSteps
set_option linter.unusedVariables false
set_option maxRecDepth 100000
namespace Go.Lt
open Go
noncomputable def PR : Program := Go.Proofs.Try.prog
abbrev F.main_main : Nat := 0
abbrev F.gosem_cut : Nat := 1
abbrev F.gosem_cut_init : Nat := 2
abbrev F.leatlaw10_SchemaGets : Nat := 3
abbrev F.leatlaw10_SchemaBack : Nat := 4
abbrev F.leatlaw10_SchemaOnly : Nat := 5
abbrev F.leatlaw10_SchemaTables : Nat := 6
abbrev F.leatlaw10_alive : Nat := 7
abbrev F.leatref10_TwinFields : Nat := 8
abbrev F.leatref01_Wide : Nat := 9
abbrev F.leatref10_Decode : Nat := 10
abbrev F.schema_Decode : Nat := 11
abbrev F.leatref10_Alike : Nat := 12
abbrev F.leatref10_AlikeFields : Nat := 13
abbrev F.leatref01_Intact : Nat := 14
abbrev F.leatref07_SpoilLists : Nat := 15
abbrev F.leatref10_Lists : Nat := 16
abbrev F.schema_Encode : Nat := 17
abbrev F.leatref10_Twin : Nat := 18
abbrev F.leatref10_Encode : Nat := 19
abbrev F.leatref01_Cat : Nat := 20
abbrev F.leatref01_Piece : Nat := 21
abbrev F.leatref01_Copy : Nat := 22
abbrev F.leatref01_Same : Nat := 23
abbrev F.schema_Table : Nat := 24
abbrev F.leatref10_Table : Nat := 25
abbrev F.schema_Check : Nat := 26
abbrev F.leatlaw10_spoil : Nat := 27
abbrev F.leatlaw10_pair : Nat := 28
abbrev F.leatref10_begin : Nat := 29
abbrev F.leatref10_readParts : Nat := 30
abbrev F.schema_root : Nat := 31
abbrev F.cursor_NewReader : Nat := 32
abbrev F.schema_record_get : Nat := 33
abbrev F.cursor_Reader_End : Nat := 34
abbrev F.leatref01_Spoil : Nat := 35
abbrev F.leatref01_Turned : Nat := 36
abbrev F.schema_record_check : Nat := 37
abbrev F.cursor_NewWriter : Nat := 38
abbrev F.schema_record_put : Nat := 39
abbrev F.cursor_Writer_Bytes : Nat := 40
abbrev F.leatref10_shape : Nat := 41
abbrev F.leatref10_parts : Nat := 42
abbrev F.schema_produce : Nat := 43
abbrev F.schema_fetch : Nat := 44
abbrev F.schema_list : Nat := 45
abbrev F.leatref10_one : Nat := 46
abbrev F.leatref10_topics : Nat := 47
abbrev F.schema_fields : Nat := 48
abbrev F.leatref10_Check : Nat := 49
abbrev F.leatref10_Here : Nat := 50
abbrev F.leatref10_read : Nat := 51
abbrev F.schema_whole : Nat := 52
abbrev F.bytes_Clone : Nat := 53
abbrev F.schema_plain : Nat := 54
abbrev F.leatref10_value : Nat := 55
abbrev F.schema_all : Nat := 56
abbrev F.schema_since : Nat := 57
abbrev F.schema_topics : Nat := 58
abbrev F.schema_list_1 : Nat := 59
abbrev F.schema_field : Nat := 60
abbrev F.leatref10_list : Nat := 61
abbrev F.leatref10_here : Nat := 62
abbrev F.leatref10_width : Nat := 63
abbrev F.leatref01_Number : Nat := 64
abbrev F.leatref10_readItems : Nat := 65
abbrev F.leatref04_Utf : Nat := 66
abbrev F.schema_present : Nat := 67
abbrev F.schema_compile : Nat := 68
abbrev F.leatref01_Fits : Nat := 69
abbrev F.leatref01_Digits : Nat := 70
abbrev F.leatref10_field : Nat := 71
abbrev F.leatref04_Char : Nat := 72
abbrev F.schema_here : Nat := 73
abbrev F.leatref04_within : Nat := 74
abbrev F.runtime_boundsError_Error : Nat := 75
abbrev F.runtime_boundsError_RuntimeError : Nat := 76
abbrev F.runtime_errorString_Error : Nat := 77
abbrev F.runtime_errorString_RuntimeError : Nat := 78
abbrev F.runtime_plainError_Error : Nat := 79
abbrev F.runtime_plainError_RuntimeError : Nat := 80
abbrev F.runtime_errorAddressString_Error : Nat := 81
abbrev F.runtime_errorAddressString_RuntimeError : Nat := 82
abbrev F.runtime_TypeAssertionError_Error : Nat := 83
abbrev F.runtime_TypeAssertionError_RuntimeError : Nat := 84
abbrev F.runtime_PanicNilError_Error : Nat := 85
abbrev F.runtime_PanicNilError_RuntimeError : Nat := 86
abbrev F.abi_Type_Align : Nat := 87
abbrev F.maps_unhashableTypeError_Error : Nat := 88
abbrev F.maps_unhashableTypeError_RuntimeError : Nat := 89
abbrev F.api_Errno_Error : Nat := 90
abbrev F.cursor_Reader_At : Nat := 91
abbrev F.cursor_Writer_Len : Nat := 92
abbrev F.schema_text_check : Nat := 93
abbrev F.schema_text_get : Nat := 94
abbrev F.schema_text_put : Nat := 95
abbrev F.label_Utf : Nat := 96
abbrev F.cursor_Reader_I16 : Nat := 97
abbrev F.cursor_Reader_Take : Nat := 98
abbrev F.cursor_Writer_I16 : Nat := 99
abbrev F.cursor_Writer_Raw : Nat := 100
abbrev F.strings_HasPrefix : Nat := 101
abbrev F.cursor_Reader_number : Nat := 102
abbrev F.cursor_Reader_Skip : Nat := 103
abbrev F.cursor_Writer_number : Nat := 104
abbrev F.cursor_Writer_Room : Nat := 105
abbrev F.stringslite_HasPrefix : Nat := 106
abbrev F.cursor_Reader_Left : Nat := 107
abbrev F.schema_blob_check : Nat := 108
abbrev F.schema_blob_get : Nat := 109
abbrev F.schema_blob_put : Nat := 110
abbrev F.cursor_Reader_I32 : Nat := 111
abbrev F.cursor_Writer_I32 : Nat := 112
abbrev F.schema_array_check : Nat := 113
abbrev F.schema_array_get : Nat := 114
abbrev F.schema_array_put : Nat := 115
abbrev F.schema_number_check : Nat := 116
abbrev F.schema_number_get : Nat := 117
abbrev F.schema_number_put : Nat := 118
abbrev F.cursor_Reader_I8 : Nat := 119
abbrev F.cursor_Reader_I64 : Nat := 120
abbrev F.cursor_Writer_I8 : Nat := 121
abbrev F.cursor_Writer_I64 : Nat := 122
section
instance : Und PR 2 (.int .i64) := ⟨by kernel_rfl⟩
instance : Scal PR 2 := ⟨by kernel_rfl, by kernel_rfl⟩
instance : Zero PR 2 (.int .i64 0) 1 := ⟨by kernel_rfl⟩
instance : NotI PR 2 := ⟨by kernel_rfl⟩
instance : Und PR 3 (.int .i64) := ⟨by kernel_rfl⟩
instance : Scal PR 3 := ⟨by kernel_rfl, by kernel_rfl⟩
instance : Zero PR 3 (.int .i64 0) 1 := ⟨by kernel_rfl⟩
instance : NotI PR 3 := ⟨by kernel_rfl⟩
instance : Und PR 4 .bool := ⟨by kernel_rfl⟩
instance : Scal PR 4 := ⟨by kernel_rfl, by kernel_rfl⟩
instance : Zero PR 4 (.bool false) 1 := ⟨by kernel_rfl⟩
instance : NotI PR 4 := ⟨by kernel_rfl⟩
instance : Und PR 5 (.int .u8) := ⟨by kernel_rfl⟩
instance : Scal PR 5 := ⟨by kernel_rfl, by kernel_rfl⟩
instance : Zero PR 5 (.int .u8 0) 1 := ⟨by kernel_rfl⟩
instance : NotI PR 5 := ⟨by kernel_rfl⟩
instance : Und PR 9 .string := ⟨by kernel_rfl⟩
instance : Scal PR 9 := ⟨by kernel_rfl, by kernel_rfl⟩
instance : Zero PR 9 (.string ⟨#[]⟩) 1 := ⟨by kernel_rfl⟩
instance : NotI PR 9 := ⟨by kernel_rfl⟩
instance : Und PR 21 (.int .i32) := ⟨by kernel_rfl⟩
instance : Scal PR 21 := ⟨by kernel_rfl, by kernel_rfl⟩
instance : Zero PR 21 (.int .i32 0) 1 := ⟨by kernel_rfl⟩
instance : NotI PR 21 := ⟨by kernel_rfl⟩
instance : Und PR 22 (.slice 60) := ⟨by kernel_rfl⟩
instance : SlE PR 22 60 := ⟨by kernel_rfl⟩
instance : Scal PR 22 := ⟨by kernel_rfl, by kernel_rfl⟩
instance : Zero PR 22 (.slice none 0 0) 1 := ⟨by kernel_rfl⟩
instance : NotI PR 22 := ⟨by kernel_rfl⟩
instance : Und PR 23 (.slice 5) := ⟨by kernel_rfl⟩
instance : SlE PR 23 5 := ⟨by kernel_rfl⟩
instance : Scal PR 23 := ⟨by kernel_rfl, by kernel_rfl⟩
instance : Zero PR 23 (.slice none 0 0) 1 := ⟨by kernel_rfl⟩
instance : NotI PR 23 := ⟨by kernel_rfl⟩
instance : Und PR 27 (.slice 29) := ⟨by kernel_rfl⟩
instance : SlE PR 27 29 := ⟨by kernel_rfl⟩
instance : Scal PR 27 := ⟨by kernel_rfl, by kernel_rfl⟩
instance : Zero PR 27 (.slice none 0 0) 1 := ⟨by kernel_rfl⟩
instance : NotI PR 27 := ⟨by kernel_rfl⟩
instance : Agg PR 29 5 := ⟨by kernel_rfl, by kernel_rfl⟩
instance : FOff PR 29 0 0 := ⟨by kernel_rfl⟩
instance : FOff PR 29 1 1 := ⟨by kernel_rfl⟩
instance : FOff PR 29 2 2 := ⟨by kernel_rfl⟩
instance : FOff PR 29 3 3 := ⟨by kernel_rfl⟩
instance : FOff PR 29 4 4 := ⟨by kernel_rfl⟩
instance : Zero PR 29 (.agg [.int .i64 0, .int .i64 0, .bool false, .slice none 0 0, .slice none 0 0].toArray) 5 := ⟨by kernel_rfl⟩
instance : NotI PR 29 := ⟨by kernel_rfl⟩
abbrev T.api_Node : Nat := 29
instance : Und PR 32 (.int .i64) := ⟨by kernel_rfl⟩
instance : Scal PR 32 := ⟨by kernel_rfl, by kernel_rfl⟩
instance : Zero PR 32 (.int .i64 0) 1 := ⟨by kernel_rfl⟩
instance : NotI PR 32 := ⟨by kernel_rfl⟩
abbrev T.api_Errno : Nat := 32
instance : Und PR 39 (.slice 23) := ⟨by kernel_rfl⟩
instance : SlE PR 39 23 := ⟨by kernel_rfl⟩
instance : Scal PR 39 := ⟨by kernel_rfl, by kernel_rfl⟩
instance : Zero PR 39 (.slice none 0 0) 1 := ⟨by kernel_rfl⟩
instance : NotI PR 39 := ⟨by kernel_rfl⟩
instance : Und PR 50 (.int .i16) := ⟨by kernel_rfl⟩
instance : Scal PR 50 := ⟨by kernel_rfl, by kernel_rfl⟩
instance : Zero PR 50 (.int .i16 0) 1 := ⟨by kernel_rfl⟩
instance : NotI PR 50 := ⟨by kernel_rfl⟩
instance : Agg PR 60 5 := ⟨by kernel_rfl, by kernel_rfl⟩
instance : FOff PR 60 0 0 := ⟨by kernel_rfl⟩
instance : FOff PR 60 1 1 := ⟨by kernel_rfl⟩
instance : FOff PR 60 2 2 := ⟨by kernel_rfl⟩
instance : FOff PR 60 3 3 := ⟨by kernel_rfl⟩
instance : FOff PR 60 4 4 := ⟨by kernel_rfl⟩
instance : Zero PR 60 (.agg [.string ⟨#[]⟩, .int .i64 0, .int .i64 0, .int .i64 0, .slice none 0 0].toArray) 5 := ⟨by kernel_rfl⟩
instance : NotI PR 60 := ⟨by kernel_rfl⟩
abbrev T.api_Field : Nat := 60
instance : Und PR 64 (.slice 93) := ⟨by kernel_rfl⟩
instance : SlE PR 64 93 := ⟨by kernel_rfl⟩
instance : Scal PR 64 := ⟨by kernel_rfl, by kernel_rfl⟩
instance : Zero PR 64 (.slice none 0 0) 1 := ⟨by kernel_rfl⟩
instance : NotI PR 64 := ⟨by kernel_rfl⟩
instance : Agg PR 66 1 := ⟨by kernel_rfl, by kernel_rfl⟩
instance : FOff PR 66 0 0 := ⟨by kernel_rfl⟩
instance : Zero PR 66 (.agg [.slice none 0 0].toArray) 1 := ⟨by kernel_rfl⟩
instance : NotI PR 66 := ⟨by kernel_rfl⟩
abbrev T.schema_record : Nat := 66
instance : Und PR 69 (.pointer 91) := ⟨by kernel_rfl⟩
instance : Scal PR 69 := ⟨by kernel_rfl, by kernel_rfl⟩
instance : Zero PR 69 (.pointer none) 1 := ⟨by kernel_rfl⟩
instance : NotI PR 69 := ⟨by kernel_rfl⟩
instance : Und PR 75 (.pointer 96) := ⟨by kernel_rfl⟩
instance : Scal PR 75 := ⟨by kernel_rfl, by kernel_rfl⟩
instance : Zero PR 75 (.pointer none) 1 := ⟨by kernel_rfl⟩
instance : NotI PR 75 := ⟨by kernel_rfl⟩
instance : Und PR 81 (.map 50 80) := ⟨by kernel_rfl⟩
instance : Scal PR 81 := ⟨by kernel_rfl, by kernel_rfl⟩
instance : Zero PR 81 (.map none) 1 := ⟨by kernel_rfl⟩
instance : NotI PR 81 := ⟨by kernel_rfl⟩
instance : Agg PR 91 2 := ⟨by kernel_rfl, by kernel_rfl⟩
instance : FOff PR 91 0 0 := ⟨by kernel_rfl⟩
instance : FOff PR 91 1 1 := ⟨by kernel_rfl⟩
instance : Zero PR 91 (.agg [.slice none 0 0, .int .i64 0].toArray) 2 := ⟨by kernel_rfl⟩
instance : NotI PR 91 := ⟨by kernel_rfl⟩
abbrev T.cursor_Reader : Nat := 91
instance : Scal PR 93 := ⟨by kernel_rfl, by kernel_rfl⟩
instance : Zero PR 93 (.nilIface) 1 := ⟨by kernel_rfl⟩
abbrev T.schema_codec : Nat := 93
instance : Agg PR 96 2 := ⟨by kernel_rfl, by kernel_rfl⟩
instance : FOff PR 96 0 0 := ⟨by kernel_rfl⟩
instance : FOff PR 96 1 1 := ⟨by kernel_rfl⟩
instance : Zero PR 96 (.agg [.slice none 0 0, .int .i64 0].toArray) 2 := ⟨by kernel_rfl⟩
instance : NotI PR 96 := ⟨by kernel_rfl⟩
abbrev T.cursor_Writer : Nat := 96
instance : Und PR 101 (.map 9 3) := ⟨by kernel_rfl⟩
instance : Scal PR 101 := ⟨by kernel_rfl, by kernel_rfl⟩
instance : Zero PR 101 (.map none) 1 := ⟨by kernel_rfl⟩
instance : NotI PR 101 := ⟨by kernel_rfl⟩
instance : Agg PR 114 1 := ⟨by kernel_rfl, by kernel_rfl⟩
instance : FOff PR 114 0 0 := ⟨by kernel_rfl⟩
instance : Zero PR 114 (.agg [.int .i64 0].toArray) 1 := ⟨by kernel_rfl⟩
instance : NotI PR 114 := ⟨by kernel_rfl⟩
abbrev T.schema_text : Nat := 114
instance : Agg PR 115 1 := ⟨by kernel_rfl, by kernel_rfl⟩
instance : FOff PR 115 0 0 := ⟨by kernel_rfl⟩
instance : Zero PR 115 (.agg [.int .i64 0].toArray) 1 := ⟨by kernel_rfl⟩
instance : NotI PR 115 := ⟨by kernel_rfl⟩
abbrev T.schema_blob : Nat := 115
instance : Agg PR 117 1 := ⟨by kernel_rfl, by kernel_rfl⟩
instance : FOff PR 117 0 0 := ⟨by kernel_rfl⟩
instance : Zero PR 117 (.agg [.nilIface].toArray) 1 := ⟨by kernel_rfl⟩
instance : NotI PR 117 := ⟨by kernel_rfl⟩
abbrev T.schema_array : Nat := 117
instance : Agg PR 118 1 := ⟨by kernel_rfl, by kernel_rfl⟩
instance : FOff PR 118 0 0 := ⟨by kernel_rfl⟩
instance : Zero PR 118 (.agg [.int .i64 0].toArray) 1 := ⟨by kernel_rfl⟩
instance : NotI PR 118 := ⟨by kernel_rfl⟩
abbrev T.schema_number : Nat := 118
instance : Und PR 142 (.int .u64) := ⟨by kernel_rfl⟩
instance : Scal PR 142 := ⟨by kernel_rfl, by kernel_rfl⟩
instance : Zero PR 142 (.int .u64 0) 1 := ⟨by kernel_rfl⟩
instance : NotI PR 142 := ⟨by kernel_rfl⟩
instance : Und PR 151 (.int .i8) := ⟨by kernel_rfl⟩
instance : Scal PR 151 := ⟨by kernel_rfl, by kernel_rfl⟩
instance : Zero PR 151 (.int .i8 0) 1 := ⟨by kernel_rfl⟩
instance : NotI PR 151 := ⟨by kernel_rfl⟩
instance {p : List HP}  : Run PR p (S.build 29 []) (.agg [.int .i64 0, .int .i64 0, .bool false, .slice none 0 0, .slice none 0 0].toArray) := ⟨fun w0 w hs => by kernel_rfl⟩
instance {p : List HP} {n0 : Int} : Run PR p (S.build 29 [(0, .int .i64 n0)]) (.agg [.int .i64 n0, .int .i64 0, .bool false, .slice none 0 0, .slice none 0 0].toArray) := ⟨fun w0 w hs => by kernel_rfl⟩
instance {p : List HP} {n0 : Int} {n1 : Int} : Run PR p (S.build 29 [(0, .int .i64 n0), (1, .int .i64 n1)]) (.agg [.int .i64 n0, .int .i64 n1, .bool false, .slice none 0 0, .slice none 0 0].toArray) := ⟨fun w0 w hs => by kernel_rfl⟩
instance {p : List HP} {n0 : Int} {n1 : Int} {b2 : Bool} {A3 : Option Addr} {l3 c3 : Nat} {A4 : Option Addr} {l4 c4 : Nat} : Run PR p (S.build 29 [(0, .int .i64 n0), (1, .int .i64 n1), (2, .bool b2), (3, .slice A3 l3 c3), (4, .slice A4 l4 c4)]) (.agg [.int .i64 n0, .int .i64 n1, .bool b2, .slice A3 l3 c3, .slice A4 l4 c4].toArray) := ⟨fun w0 w hs => by kernel_rfl⟩
instance {p : List HP} {n0 : Int} {b1 : Bool} : Run PR p (S.build 29 [(0, .int .i64 n0), (2, .bool b1)]) (.agg [.int .i64 n0, .int .i64 0, .bool b1, .slice none 0 0, .slice none 0 0].toArray) := ⟨fun w0 w hs => by kernel_rfl⟩
instance {p : List HP} {n0 : Int} {A1 : Option Addr} {l1 c1 : Nat} : Run PR p (S.build 29 [(0, .int .i64 n0), (3, .slice A1 l1 c1)]) (.agg [.int .i64 n0, .int .i64 0, .bool false, .slice A1 l1 c1, .slice none 0 0].toArray) := ⟨fun w0 w hs => by kernel_rfl⟩
instance {p : List HP} {n0 : Int} {A1 : Option Addr} {l1 c1 : Nat} : Run PR p (S.build 29 [(0, .int .i64 n0), (4, .slice A1 l1 c1)]) (.agg [.int .i64 n0, .int .i64 0, .bool false, .slice none 0 0, .slice A1 l1 c1].toArray) := ⟨fun w0 w hs => by kernel_rfl⟩
instance {p : List HP} {s0 : ByteArray} {n1 : Int} {n2 : Int} {n3 : Int} : Run PR p (S.build 60 [(0, .string s0), (1, .int .i64 n1), (2, .int .i64 n2), (3, .int .i64 n3)]) (.agg [.string s0, .int .i64 n1, .int .i64 n2, .int .i64 n3, .slice none 0 0].toArray) := ⟨fun w0 w hs => by kernel_rfl⟩
instance {p : List HP} {s0 : ByteArray} {n1 : Int} {n2 : Int} {n3 : Int} {A4 : Option Addr} {l4 c4 : Nat} : Run PR p (S.build 60 [(0, .string s0), (1, .int .i64 n1), (2, .int .i64 n2), (3, .int .i64 n3), (4, .slice A4 l4 c4)]) (.agg [.string s0, .int .i64 n1, .int .i64 n2, .int .i64 n3, .slice A4 l4 c4].toArray) := ⟨fun w0 w hs => by kernel_rfl⟩
instance {p : List HP} {s0 : ByteArray} {n1 : Int} {A2 : Option Addr} {l2 c2 : Nat} : Run PR p (S.build 60 [(0, .string s0), (1, .int .i64 n1), (4, .slice A2 l2 c2)]) (.agg [.string s0, .int .i64 n1, .int .i64 0, .int .i64 0, .slice A2 l2 c2].toArray) := ⟨fun w0 w hs => by kernel_rfl⟩
instance {p : List HP} {n0 : Int} : Run PR p (S.build 60 [(1, .int .i64 n0)]) (.agg [.string ⟨#[]⟩, .int .i64 n0, .int .i64 0, .int .i64 0, .slice none 0 0].toArray) := ⟨fun w0 w hs => by kernel_rfl⟩
instance {p : List HP}  : Run PR p (S.build 66 []) (.agg [.slice none 0 0].toArray) := ⟨fun w0 w hs => by kernel_rfl⟩
instance {p : List HP} {A0 : Option Addr} {l0 c0 : Nat} : Run PR p (S.build 91 [(0, .slice A0 l0 c0)]) (.agg [.slice A0 l0 c0, .int .i64 0].toArray) := ⟨fun w0 w hs => by kernel_rfl⟩
instance {p : List HP} {n0 : Int} : Run PR p (S.build 96 [(1, .int .i64 n0)]) (.agg [.slice none 0 0, .int .i64 n0].toArray) := ⟨fun w0 w hs => by kernel_rfl⟩
instance {p : List HP} {n0 : Int} : Run PR p (S.build 114 [(0, .int .i64 n0)]) (.agg [.int .i64 n0].toArray) := ⟨fun w0 w hs => by kernel_rfl⟩
instance {p : List HP} {n0 : Int} : Run PR p (S.build 115 [(0, .int .i64 n0)]) (.agg [.int .i64 n0].toArray) := ⟨fun w0 w hs => by kernel_rfl⟩
instance {p : List HP} {t0 : TypeId} {v0 : Value} : Run PR p (S.build 117 [(0, .iface t0 v0)]) (.agg [.iface t0 v0].toArray) := ⟨fun w0 w hs => by kernel_rfl⟩
instance {p : List HP}  : Run PR p (S.build 117 [(0, .nilIface)]) (.agg [.nilIface].toArray) := ⟨fun w0 w hs => by kernel_rfl⟩
instance {p : List HP} {n0 : Int} : Run PR p (S.build 118 [(0, .int .i64 n0)]) (.agg [.int .i64 n0].toArray) := ⟨fun w0 w hs => by kernel_rfl⟩
instance  : BS PR 22 0 [] 60 [] := ⟨fun w => by kernel_rfl⟩
instance  {s1 : ByteArray} {n2 : Int} {n3 : Int} {n4 : Int} {A5 : Option Addr} {l5 c5 : Nat} : BS PR 22 1 [(0, .agg [.string s1, .int .i64 n2, .int .i64 n3, .int .i64 n4, .slice A5 l5 c5].toArray)] 60 [.string s1, .int .i64 n2, .int .i64 n3, .int .i64 n4, .slice A5 l5 c5] := ⟨fun w => by kernel_rfl⟩
instance  {s1 : ByteArray} {n2 : Int} {n3 : Int} {n4 : Int} {A5 : Option Addr} {l5 c5 : Nat}  {s7 : ByteArray} {n8 : Int} {n9 : Int} {n10 : Int} {A11 : Option Addr} {l11 c11 : Nat} : BS PR 22 2 [(0, .agg [.string s1, .int .i64 n2, .int .i64 n3, .int .i64 n4, .slice A5 l5 c5].toArray), (1, .agg [.string s7, .int .i64 n8, .int .i64 n9, .int .i64 n10, .slice A11 l11 c11].toArray)] 60 [.string s1, .int .i64 n2, .int .i64 n3, .int .i64 n4, .slice A5 l5 c5, .string s7, .int .i64 n8, .int .i64 n9, .int .i64 n10, .slice A11 l11 c11] := ⟨fun w => by kernel_rfl⟩
instance  {s1 : ByteArray} {n2 : Int} {n3 : Int} {n4 : Int} {A5 : Option Addr} {l5 c5 : Nat}  {s7 : ByteArray} {n8 : Int} {n9 : Int} {n10 : Int} {A11 : Option Addr} {l11 c11 : Nat}  {s13 : ByteArray} {n14 : Int} {n15 : Int} {n16 : Int} {A17 : Option Addr} {l17 c17 : Nat} : BS PR 22 3 [(0, .agg [.string s1, .int .i64 n2, .int .i64 n3, .int .i64 n4, .slice A5 l5 c5].toArray), (1, .agg [.string s7, .int .i64 n8, .int .i64 n9, .int .i64 n10, .slice A11 l11 c11].toArray), (2, .agg [.string s13, .int .i64 n14, .int .i64 n15, .int .i64 n16, .slice A17 l17 c17].toArray)] 60 [.string s1, .int .i64 n2, .int .i64 n3, .int .i64 n4, .slice A5 l5 c5, .string s7, .int .i64 n8, .int .i64 n9, .int .i64 n10, .slice A11 l11 c11, .string s13, .int .i64 n14, .int .i64 n15, .int .i64 n16, .slice A17 l17 c17] := ⟨fun w => by kernel_rfl⟩
instance  {s1 : ByteArray} {n2 : Int} {n3 : Int} {n4 : Int} {A5 : Option Addr} {l5 c5 : Nat}  {s7 : ByteArray} {n8 : Int} {n9 : Int} {n10 : Int} {A11 : Option Addr} {l11 c11 : Nat}  {s13 : ByteArray} {n14 : Int} {n15 : Int} {n16 : Int} {A17 : Option Addr} {l17 c17 : Nat}  {s19 : ByteArray} {n20 : Int} {n21 : Int} {n22 : Int} {A23 : Option Addr} {l23 c23 : Nat} : BS PR 22 4 [(0, .agg [.string s1, .int .i64 n2, .int .i64 n3, .int .i64 n4, .slice A5 l5 c5].toArray), (1, .agg [.string s7, .int .i64 n8, .int .i64 n9, .int .i64 n10, .slice A11 l11 c11].toArray), (2, .agg [.string s13, .int .i64 n14, .int .i64 n15, .int .i64 n16, .slice A17 l17 c17].toArray), (3, .agg [.string s19, .int .i64 n20, .int .i64 n21, .int .i64 n22, .slice A23 l23 c23].toArray)] 60 [.string s1, .int .i64 n2, .int .i64 n3, .int .i64 n4, .slice A5 l5 c5, .string s7, .int .i64 n8, .int .i64 n9, .int .i64 n10, .slice A11 l11 c11, .string s13, .int .i64 n14, .int .i64 n15, .int .i64 n16, .slice A17 l17 c17, .string s19, .int .i64 n20, .int .i64 n21, .int .i64 n22, .slice A23 l23 c23] := ⟨fun w => by kernel_rfl⟩
instance  {s1 : ByteArray} {n2 : Int} {n3 : Int} {n4 : Int} {A5 : Option Addr} {l5 c5 : Nat}  {s7 : ByteArray} {n8 : Int} {n9 : Int} {n10 : Int} {A11 : Option Addr} {l11 c11 : Nat}  {s13 : ByteArray} {n14 : Int} {n15 : Int} {n16 : Int} {A17 : Option Addr} {l17 c17 : Nat}  {s19 : ByteArray} {n20 : Int} {n21 : Int} {n22 : Int} {A23 : Option Addr} {l23 c23 : Nat}  {s25 : ByteArray} {n26 : Int} {n27 : Int} {n28 : Int} {A29 : Option Addr} {l29 c29 : Nat} : BS PR 22 5 [(0, .agg [.string s1, .int .i64 n2, .int .i64 n3, .int .i64 n4, .slice A5 l5 c5].toArray), (1, .agg [.string s7, .int .i64 n8, .int .i64 n9, .int .i64 n10, .slice A11 l11 c11].toArray), (2, .agg [.string s13, .int .i64 n14, .int .i64 n15, .int .i64 n16, .slice A17 l17 c17].toArray), (3, .agg [.string s19, .int .i64 n20, .int .i64 n21, .int .i64 n22, .slice A23 l23 c23].toArray), (4, .agg [.string s25, .int .i64 n26, .int .i64 n27, .int .i64 n28, .slice A29 l29 c29].toArray)] 60 [.string s1, .int .i64 n2, .int .i64 n3, .int .i64 n4, .slice A5 l5 c5, .string s7, .int .i64 n8, .int .i64 n9, .int .i64 n10, .slice A11 l11 c11, .string s13, .int .i64 n14, .int .i64 n15, .int .i64 n16, .slice A17 l17 c17, .string s19, .int .i64 n20, .int .i64 n21, .int .i64 n22, .slice A23 l23 c23, .string s25, .int .i64 n26, .int .i64 n27, .int .i64 n28, .slice A29 l29 c29] := ⟨fun w => by kernel_rfl⟩
instance  {s1 : ByteArray} {n2 : Int} {n3 : Int} {n4 : Int} {A5 : Option Addr} {l5 c5 : Nat}  {s7 : ByteArray} {n8 : Int} {n9 : Int} {n10 : Int} {A11 : Option Addr} {l11 c11 : Nat}  {s13 : ByteArray} {n14 : Int} {n15 : Int} {n16 : Int} {A17 : Option Addr} {l17 c17 : Nat}  {s19 : ByteArray} {n20 : Int} {n21 : Int} {n22 : Int} {A23 : Option Addr} {l23 c23 : Nat}  {s25 : ByteArray} {n26 : Int} {n27 : Int} {n28 : Int} {A29 : Option Addr} {l29 c29 : Nat}  {s31 : ByteArray} {n32 : Int} {n33 : Int} {n34 : Int} {A35 : Option Addr} {l35 c35 : Nat} : BS PR 22 6 [(0, .agg [.string s1, .int .i64 n2, .int .i64 n3, .int .i64 n4, .slice A5 l5 c5].toArray), (1, .agg [.string s7, .int .i64 n8, .int .i64 n9, .int .i64 n10, .slice A11 l11 c11].toArray), (2, .agg [.string s13, .int .i64 n14, .int .i64 n15, .int .i64 n16, .slice A17 l17 c17].toArray), (3, .agg [.string s19, .int .i64 n20, .int .i64 n21, .int .i64 n22, .slice A23 l23 c23].toArray), (4, .agg [.string s25, .int .i64 n26, .int .i64 n27, .int .i64 n28, .slice A29 l29 c29].toArray), (5, .agg [.string s31, .int .i64 n32, .int .i64 n33, .int .i64 n34, .slice A35 l35 c35].toArray)] 60 [.string s1, .int .i64 n2, .int .i64 n3, .int .i64 n4, .slice A5 l5 c5, .string s7, .int .i64 n8, .int .i64 n9, .int .i64 n10, .slice A11 l11 c11, .string s13, .int .i64 n14, .int .i64 n15, .int .i64 n16, .slice A17 l17 c17, .string s19, .int .i64 n20, .int .i64 n21, .int .i64 n22, .slice A23 l23 c23, .string s25, .int .i64 n26, .int .i64 n27, .int .i64 n28, .slice A29 l29 c29, .string s31, .int .i64 n32, .int .i64 n33, .int .i64 n34, .slice A35 l35 c35] := ⟨fun w => by kernel_rfl⟩
instance  : BS PR 23 0 [] 5 [] := ⟨fun w => by kernel_rfl⟩
instance {n0 : Int} : BS PR 23 1 [(0, .int .u8 n0)] 5 [.int .u8 n0] := ⟨fun w => by kernel_rfl⟩
instance {n0 : Int} {n1 : Int} {n2 : Int} {n3 : Int} : BS PR 23 4 [(0, .int .u8 n0), (1, .int .u8 n1), (2, .int .u8 n2), (3, .int .u8 n3)] 5 [.int .u8 n0, .int .u8 n1, .int .u8 n2, .int .u8 n3] := ⟨fun w => by kernel_rfl⟩
instance  : BS PR 27 0 [] 29 [] := ⟨fun w => by kernel_rfl⟩
instance  {n1 : Int} {n2 : Int} {b3 : Bool} {A4 : Option Addr} {l4 c4 : Nat} {A5 : Option Addr} {l5 c5 : Nat} : BS PR 27 1 [(0, .agg [.int .i64 n1, .int .i64 n2, .bool b3, .slice A4 l4 c4, .slice A5 l5 c5].toArray)] 29 [.int .i64 n1, .int .i64 n2, .bool b3, .slice A4 l4 c4, .slice A5 l5 c5] := ⟨fun w => by kernel_rfl⟩
instance  {n1 : Int} {n2 : Int} {b3 : Bool} {A4 : Option Addr} {l4 c4 : Nat} {A5 : Option Addr} {l5 c5 : Nat}  {n7 : Int} {n8 : Int} {b9 : Bool} {A10 : Option Addr} {l10 c10 : Nat} {A11 : Option Addr} {l11 c11 : Nat} : BS PR 27 2 [(0, .agg [.int .i64 n1, .int .i64 n2, .bool b3, .slice A4 l4 c4, .slice A5 l5 c5].toArray), (1, .agg [.int .i64 n7, .int .i64 n8, .bool b9, .slice A10 l10 c10, .slice A11 l11 c11].toArray)] 29 [.int .i64 n1, .int .i64 n2, .bool b3, .slice A4 l4 c4, .slice A5 l5 c5, .int .i64 n7, .int .i64 n8, .bool b9, .slice A10 l10 c10, .slice A11 l11 c11] := ⟨fun w => by kernel_rfl⟩
instance  : BS PR 39 0 [] 23 [] := ⟨fun w => by kernel_rfl⟩
instance {A0 : Option Addr} {l0 c0 : Nat} : BS PR 39 1 [(0, .slice A0 l0 c0)] 23 [.slice A0 l0 c0] := ⟨fun w => by kernel_rfl⟩
instance {t0 : TypeId} {v0 : Value} : BS PR 64 1 [(0, .iface t0 v0)] 93 [.iface t0 v0] := ⟨fun w => by kernel_rfl⟩
instance  : BS PR 64 1 [(0, .nilIface)] 93 [.nilIface] := ⟨fun w => by kernel_rfl⟩
end
abbrev T.u8 : Nat := 5
abbrev T.int64 : Nat := 2
abbrev T.int : Nat := 3
abbrev T.bool : Nat := 4
abbrev T.uint8 : Nat := 5
abbrev T.string : Nat := 9
abbrev T.uintptr : Nat := 12
abbrev T.P_runtime_TypeAssertionError : Nat := 15
abbrev T.P_runtime_PanicNilError : Nat := 16
abbrev T.P_abi_Type : Nat := 17
abbrev T.int32 : Nat := 21
abbrev T.L_api_Field : Nat := 22
abbrev T.L_uint8 : Nat := 23
abbrev T.L_api_Node : Nat := 27
abbrev T.L_L_uint8 : Nat := 39
abbrev T.int16 : Nat := 50
abbrev T.L_schema_codec : Nat := 64
abbrev T.P_cursor_Reader : Nat := 69
abbrev T.P_cursor_Writer : Nat := 75
abbrev T.map_string_int : Nat := 101
abbrev T.uint32 : Nat := 127
abbrev T.P_uint8 : Nat := 131
abbrev T.uint64 : Nat := 142
abbrev T.uint : Nat := 147
abbrev T.int8 : Nat := 151
abbrev T.unsafe_Pointer : Nat := 158
theorem op_fn_of_meth {P : Program} {Pn : PK} {t : TypeId} {name : String} {args : List Value} {f : FuncId} {v : Value} {K : Value → WP} {w : World} [hm : Meth P t name args f] {fn : Func} (hf : P.funcs[f]? = some fn) (hn : (fn.name == "runtime.NumGoroutine") = false) (hb : fn.body.isNone = false) (h : op P Pn (S.invoke (.iface t v) name args) K w) : op P Pn (S.fn f (v :: args)) K w := by
  unfold op at h ⊢
  rw [hm.out] at h
  have e := callV_run (P := P) (args := v :: args) (first := []) (cap := []) w hf hn hb
  unfold S.fn
  rw [show (#[] : Array Value) = ([] : List Value).toArray from rfl, e]
  simpa using h
theorem mixed : PR.follows .mixedOrders = true := by kernel_rfl
instance {a0 : Value} : Meth PR 66 "leat/schema.check" [a0] F.schema_record_check := ⟨fun v w => by kernel_rfl⟩
theorem fnm.schema_record_check {Pn : PK} {K : Value → WP} {v a0 : Value} {w : World} (h : op PR Pn (S.invoke (.iface 66 v) "leat/schema.check" [a0]) K w) : op PR Pn (S.fn F.schema_record_check [v, a0]) K w := op_fn_of_meth Go.Proofs.Try.func37 (by kernel_rfl) rfl h
theorem meth.schema_record_check {Pn : PK} {K : Value → WP} {v a0 : Value} {w : World} (h : op PR Pn (S.fn F.schema_record_check [v, a0]) K w) : op PR Pn (S.invoke (.iface 66 v) "leat/schema.check" [a0]) K w := op_meth Go.Proofs.Try.func37 (by kernel_rfl) rfl h
instance {a0 : Value} : Meth PR 66 "leat/schema.get" [a0] F.schema_record_get := ⟨fun v w => by kernel_rfl⟩
theorem fnm.schema_record_get {Pn : PK} {K : Value → WP} {v a0 : Value} {w : World} (h : op PR Pn (S.invoke (.iface 66 v) "leat/schema.get" [a0]) K w) : op PR Pn (S.fn F.schema_record_get [v, a0]) K w := op_fn_of_meth Go.Proofs.Try.func33 (by kernel_rfl) rfl h
theorem meth.schema_record_get {Pn : PK} {K : Value → WP} {v a0 : Value} {w : World} (h : op PR Pn (S.fn F.schema_record_get [v, a0]) K w) : op PR Pn (S.invoke (.iface 66 v) "leat/schema.get" [a0]) K w := op_meth Go.Proofs.Try.func33 (by kernel_rfl) rfl h
instance {a0 a1 : Value} : Meth PR 66 "leat/schema.put" [a0, a1] F.schema_record_put := ⟨fun v w => by kernel_rfl⟩
theorem fnm.schema_record_put {Pn : PK} {K : Value → WP} {v a0 a1 : Value} {w : World} (h : op PR Pn (S.invoke (.iface 66 v) "leat/schema.put" [a0, a1]) K w) : op PR Pn (S.fn F.schema_record_put [v, a0, a1]) K w := op_fn_of_meth Go.Proofs.Try.func39 (by kernel_rfl) rfl h
theorem meth.schema_record_put {Pn : PK} {K : Value → WP} {v a0 a1 : Value} {w : World} (h : op PR Pn (S.fn F.schema_record_put [v, a0, a1]) K w) : op PR Pn (S.invoke (.iface 66 v) "leat/schema.put" [a0, a1]) K w := op_meth Go.Proofs.Try.func39 (by kernel_rfl) rfl h
instance {a0 : Value} : Meth PR 114 "leat/schema.check" [a0] F.schema_text_check := ⟨fun v w => by kernel_rfl⟩
theorem fnm.schema_text_check {Pn : PK} {K : Value → WP} {v a0 : Value} {w : World} (h : op PR Pn (S.invoke (.iface 114 v) "leat/schema.check" [a0]) K w) : op PR Pn (S.fn F.schema_text_check [v, a0]) K w := op_fn_of_meth Go.Proofs.Try.func93 (by kernel_rfl) rfl h
theorem meth.schema_text_check {Pn : PK} {K : Value → WP} {v a0 : Value} {w : World} (h : op PR Pn (S.fn F.schema_text_check [v, a0]) K w) : op PR Pn (S.invoke (.iface 114 v) "leat/schema.check" [a0]) K w := op_meth Go.Proofs.Try.func93 (by kernel_rfl) rfl h
instance {a0 : Value} : Meth PR 114 "leat/schema.get" [a0] F.schema_text_get := ⟨fun v w => by kernel_rfl⟩
theorem fnm.schema_text_get {Pn : PK} {K : Value → WP} {v a0 : Value} {w : World} (h : op PR Pn (S.invoke (.iface 114 v) "leat/schema.get" [a0]) K w) : op PR Pn (S.fn F.schema_text_get [v, a0]) K w := op_fn_of_meth Go.Proofs.Try.func94 (by kernel_rfl) rfl h
theorem meth.schema_text_get {Pn : PK} {K : Value → WP} {v a0 : Value} {w : World} (h : op PR Pn (S.fn F.schema_text_get [v, a0]) K w) : op PR Pn (S.invoke (.iface 114 v) "leat/schema.get" [a0]) K w := op_meth Go.Proofs.Try.func94 (by kernel_rfl) rfl h
instance {a0 a1 : Value} : Meth PR 114 "leat/schema.put" [a0, a1] F.schema_text_put := ⟨fun v w => by kernel_rfl⟩
theorem fnm.schema_text_put {Pn : PK} {K : Value → WP} {v a0 a1 : Value} {w : World} (h : op PR Pn (S.invoke (.iface 114 v) "leat/schema.put" [a0, a1]) K w) : op PR Pn (S.fn F.schema_text_put [v, a0, a1]) K w := op_fn_of_meth Go.Proofs.Try.func95 (by kernel_rfl) rfl h
theorem meth.schema_text_put {Pn : PK} {K : Value → WP} {v a0 a1 : Value} {w : World} (h : op PR Pn (S.fn F.schema_text_put [v, a0, a1]) K w) : op PR Pn (S.invoke (.iface 114 v) "leat/schema.put" [a0, a1]) K w := op_meth Go.Proofs.Try.func95 (by kernel_rfl) rfl h
instance {a0 : Value} : Meth PR 115 "leat/schema.check" [a0] F.schema_blob_check := ⟨fun v w => by kernel_rfl⟩
theorem fnm.schema_blob_check {Pn : PK} {K : Value → WP} {v a0 : Value} {w : World} (h : op PR Pn (S.invoke (.iface 115 v) "leat/schema.check" [a0]) K w) : op PR Pn (S.fn F.schema_blob_check [v, a0]) K w := op_fn_of_meth Go.Proofs.Try.func108 (by kernel_rfl) rfl h
theorem meth.schema_blob_check {Pn : PK} {K : Value → WP} {v a0 : Value} {w : World} (h : op PR Pn (S.fn F.schema_blob_check [v, a0]) K w) : op PR Pn (S.invoke (.iface 115 v) "leat/schema.check" [a0]) K w := op_meth Go.Proofs.Try.func108 (by kernel_rfl) rfl h
instance {a0 : Value} : Meth PR 115 "leat/schema.get" [a0] F.schema_blob_get := ⟨fun v w => by kernel_rfl⟩
theorem fnm.schema_blob_get {Pn : PK} {K : Value → WP} {v a0 : Value} {w : World} (h : op PR Pn (S.invoke (.iface 115 v) "leat/schema.get" [a0]) K w) : op PR Pn (S.fn F.schema_blob_get [v, a0]) K w := op_fn_of_meth Go.Proofs.Try.func109 (by kernel_rfl) rfl h
theorem meth.schema_blob_get {Pn : PK} {K : Value → WP} {v a0 : Value} {w : World} (h : op PR Pn (S.fn F.schema_blob_get [v, a0]) K w) : op PR Pn (S.invoke (.iface 115 v) "leat/schema.get" [a0]) K w := op_meth Go.Proofs.Try.func109 (by kernel_rfl) rfl h
instance {a0 a1 : Value} : Meth PR 115 "leat/schema.put" [a0, a1] F.schema_blob_put := ⟨fun v w => by kernel_rfl⟩
theorem fnm.schema_blob_put {Pn : PK} {K : Value → WP} {v a0 a1 : Value} {w : World} (h : op PR Pn (S.invoke (.iface 115 v) "leat/schema.put" [a0, a1]) K w) : op PR Pn (S.fn F.schema_blob_put [v, a0, a1]) K w := op_fn_of_meth Go.Proofs.Try.func110 (by kernel_rfl) rfl h
theorem meth.schema_blob_put {Pn : PK} {K : Value → WP} {v a0 a1 : Value} {w : World} (h : op PR Pn (S.fn F.schema_blob_put [v, a0, a1]) K w) : op PR Pn (S.invoke (.iface 115 v) "leat/schema.put" [a0, a1]) K w := op_meth Go.Proofs.Try.func110 (by kernel_rfl) rfl h
instance {a0 : Value} : Meth PR 117 "leat/schema.check" [a0] F.schema_array_check := ⟨fun v w => by kernel_rfl⟩
theorem fnm.schema_array_check {Pn : PK} {K : Value → WP} {v a0 : Value} {w : World} (h : op PR Pn (S.invoke (.iface 117 v) "leat/schema.check" [a0]) K w) : op PR Pn (S.fn F.schema_array_check [v, a0]) K w := op_fn_of_meth Go.Proofs.Try.func113 (by kernel_rfl) rfl h
theorem meth.schema_array_check {Pn : PK} {K : Value → WP} {v a0 : Value} {w : World} (h : op PR Pn (S.fn F.schema_array_check [v, a0]) K w) : op PR Pn (S.invoke (.iface 117 v) "leat/schema.check" [a0]) K w := op_meth Go.Proofs.Try.func113 (by kernel_rfl) rfl h
instance {a0 : Value} : Meth PR 117 "leat/schema.get" [a0] F.schema_array_get := ⟨fun v w => by kernel_rfl⟩
theorem fnm.schema_array_get {Pn : PK} {K : Value → WP} {v a0 : Value} {w : World} (h : op PR Pn (S.invoke (.iface 117 v) "leat/schema.get" [a0]) K w) : op PR Pn (S.fn F.schema_array_get [v, a0]) K w := op_fn_of_meth Go.Proofs.Try.func114 (by kernel_rfl) rfl h
theorem meth.schema_array_get {Pn : PK} {K : Value → WP} {v a0 : Value} {w : World} (h : op PR Pn (S.fn F.schema_array_get [v, a0]) K w) : op PR Pn (S.invoke (.iface 117 v) "leat/schema.get" [a0]) K w := op_meth Go.Proofs.Try.func114 (by kernel_rfl) rfl h
instance {a0 a1 : Value} : Meth PR 117 "leat/schema.put" [a0, a1] F.schema_array_put := ⟨fun v w => by kernel_rfl⟩
theorem fnm.schema_array_put {Pn : PK} {K : Value → WP} {v a0 a1 : Value} {w : World} (h : op PR Pn (S.invoke (.iface 117 v) "leat/schema.put" [a0, a1]) K w) : op PR Pn (S.fn F.schema_array_put [v, a0, a1]) K w := op_fn_of_meth Go.Proofs.Try.func115 (by kernel_rfl) rfl h
theorem meth.schema_array_put {Pn : PK} {K : Value → WP} {v a0 a1 : Value} {w : World} (h : op PR Pn (S.fn F.schema_array_put [v, a0, a1]) K w) : op PR Pn (S.invoke (.iface 117 v) "leat/schema.put" [a0, a1]) K w := op_meth Go.Proofs.Try.func115 (by kernel_rfl) rfl h
instance {a0 : Value} : Meth PR 118 "leat/schema.check" [a0] F.schema_number_check := ⟨fun v w => by kernel_rfl⟩
theorem fnm.schema_number_check {Pn : PK} {K : Value → WP} {v a0 : Value} {w : World} (h : op PR Pn (S.invoke (.iface 118 v) "leat/schema.check" [a0]) K w) : op PR Pn (S.fn F.schema_number_check [v, a0]) K w := op_fn_of_meth Go.Proofs.Try.func116 (by kernel_rfl) rfl h
theorem meth.schema_number_check {Pn : PK} {K : Value → WP} {v a0 : Value} {w : World} (h : op PR Pn (S.fn F.schema_number_check [v, a0]) K w) : op PR Pn (S.invoke (.iface 118 v) "leat/schema.check" [a0]) K w := op_meth Go.Proofs.Try.func116 (by kernel_rfl) rfl h
instance {a0 : Value} : Meth PR 118 "leat/schema.get" [a0] F.schema_number_get := ⟨fun v w => by kernel_rfl⟩
theorem fnm.schema_number_get {Pn : PK} {K : Value → WP} {v a0 : Value} {w : World} (h : op PR Pn (S.invoke (.iface 118 v) "leat/schema.get" [a0]) K w) : op PR Pn (S.fn F.schema_number_get [v, a0]) K w := op_fn_of_meth Go.Proofs.Try.func117 (by kernel_rfl) rfl h
theorem meth.schema_number_get {Pn : PK} {K : Value → WP} {v a0 : Value} {w : World} (h : op PR Pn (S.fn F.schema_number_get [v, a0]) K w) : op PR Pn (S.invoke (.iface 118 v) "leat/schema.get" [a0]) K w := op_meth Go.Proofs.Try.func117 (by kernel_rfl) rfl h
instance {a0 a1 : Value} : Meth PR 118 "leat/schema.put" [a0, a1] F.schema_number_put := ⟨fun v w => by kernel_rfl⟩
theorem fnm.schema_number_put {Pn : PK} {K : Value → WP} {v a0 a1 : Value} {w : World} (h : op PR Pn (S.invoke (.iface 118 v) "leat/schema.put" [a0, a1]) K w) : op PR Pn (S.fn F.schema_number_put [v, a0, a1]) K w := op_fn_of_meth Go.Proofs.Try.func118 (by kernel_rfl) rfl h
theorem meth.schema_number_put {Pn : PK} {K : Value → WP} {v a0 a1 : Value} {w : World} (h : op PR Pn (S.fn F.schema_number_put [v, a0, a1]) K w) : op PR Pn (S.invoke (.iface 118 v) "leat/schema.put" [a0, a1]) K w := op_meth Go.Proofs.Try.func118 (by kernel_rfl) rfl h
/-- gosem.cut.init: function 2. -/
def W.gosem_cut_init (Pn : PK) (K : Value → WP) : WP :=
  op PR Pn (S.fn F.gosem_cut []) fun x0 =>
  K (.tuple #[])
theorem enter.gosem_cut_init {Pn : PK} {K : Value → WP} {w : World} (h : W.gosem_cut_init Pn K  w) : op PR Pn (S.fn F.gosem_cut_init []) K w :=
  op_call (first := []) (cap := []) (args := []) Go.Proofs.Try.func2 (by kernel_rfl) rfl (calls_of_denF (args := []) (h := .n) mixed Go.Proofs.Try.func2 rfl (by kernel_rfl) (Eq.mp (by kernel_rfl) h))
/-- leat/leatlaw10.SchemaGets: function 3. -/
def W.leatlaw10_SchemaGets (Pn : PK) (K : Value → WP) (a0 a1 a2 : Value) : WP :=
  op PR Pn (S.fn F.leatlaw10_alive []) fun x17 =>
  op PR Pn (S.un .not x17) fun x18 =>
  ite' x18
  (K (.bool false))
  (op PR Pn (S.fn F.leatref10_TwinFields [a0]) fun x20 =>
    op PR Pn (S.fn F.leatref01_Wide [a2]) fun x22 =>
    op PR Pn (S.fn F.leatref10_Decode [a0, a1, a2]) fun x27 =>
    op PR Pn (S.ext x27 0) fun x28 =>
    op PR Pn (S.ext x27 1) fun x29 =>
    op PR Pn (S.alloc 29) fun x9 =>
    op PR Pn (S.store 29 x9 x28) fun _ =>
    op PR Pn (S.bi .len #[23] 3 [false] [a2]) fun x35 =>
    op PR Pn (S.sl 23 x22 none (some x35) none) fun x36 =>
    op PR Pn (S.fn F.schema_Decode [x20, a1, x36]) fun x37 =>
    op PR Pn (S.ext x37 0) fun x38 =>
    op PR Pn (S.ext x37 1) fun x39 =>
    op PR Pn (S.alloc 29) fun x11 =>
    op PR Pn (S.store 29 x11 x38) fun _ =>
    op PR Pn (S.bi .len #[23] 3 [false] [a2]) fun x45 =>
    op PR Pn (S.sl 23 x22 none (some x45) none) fun x46 =>
    op PR Pn (S.fn F.schema_Decode [x20, a1, x46]) fun x47 =>
    op PR Pn (S.ext x47 0) fun x48 =>
    op PR Pn (S.ext x47 1) fun x49 =>
    op PR Pn (S.alloc 29) fun x13 =>
    op PR Pn (S.store 29 x13 x48) fun _ =>
    op PR Pn (S.bin .neq 3 (.tmp 50) (.tmp 51) x39 x29) fun x52 =>
    gop PR Pn x52 false (S.mv x49) fun x54 =>
    gop PR Pn x52 false (S.mv x39) fun x55 =>
    gop PR Pn x52 false (S.bin .neq 32 (.tmp 54) (.tmp 55) x54 x55) fun x56 =>
    op PR Pn (S.pick x52 (.bool true) x56) fun x57 =>
    gop PR Pn x57 false (S.load 29 x11) fun x59 =>
    gop PR Pn x57 false (S.load 29 x9) fun x60 =>
    gop PR Pn x57 false (S.fn F.leatref10_Alike [x59, x60]) fun x61 =>
    gop PR Pn x57 false (S.un .not x61) fun x62 =>
    op PR Pn (S.pick x57 (.bool true) x62) fun x63 =>
    gop PR Pn x63 false (S.load 29 x13) fun x65 =>
    gop PR Pn x63 false (S.load 29 x9) fun x66 =>
    gop PR Pn x63 false (S.fn F.leatref10_Alike [x65, x66]) fun x67 =>
    gop PR Pn x63 false (S.un .not x67) fun x68 =>
    op PR Pn (S.pick x63 (.bool true) x68) fun x69 =>
    gop PR Pn x69 false (S.mv x20) fun x71 =>
    gop PR Pn x69 false (S.mv a0) fun x72 =>
    gop PR Pn x69 false (S.fn F.leatref10_AlikeFields [x71, x72]) fun x73 =>
    gop PR Pn x69 false (S.un .not x73) fun x74 =>
    op PR Pn (S.pick x69 (.bool true) x74) fun x75 =>
    gop PR Pn x75 false (S.mv x22) fun x77 =>
    gop PR Pn x75 false (S.mv a2) fun x78 =>
    gop PR Pn x75 false (S.fn F.leatref01_Intact [x77, x78]) fun x79 =>
    gop PR Pn x75 false (S.un .not x79) fun x80 =>
    op PR Pn (S.pick x75 (.bool true) x80) fun x81 =>
    ite' x81
    (K (.bool false))
    (drawn <|
      lt PR (S.load 29 x11) fun x82 =>
      lt PR (S.load 29 x9) fun x84 =>
      op PR Pn (S.fn F.leatref10_Lists [x82]) fun x83 =>
      rc PR (S.load 29 x9) x84 <|
      op PR Pn (S.fn F.leatref10_Lists [x84]) fun x85 =>
      op PR Pn (S.fn F.leatref07_SpoilLists [x83, x85]) fun x86 =>
      lt PR (S.un .not x86) fun x87 =>
      lt PR (S.mv x87) fun x88 =>
      glt PR x88 false (S.mv x22) fun x89 =>
      glt PR x88 false (S.mv a2) fun x90 =>
      gop PR Pn x88 false (S.fn F.leatref01_Intact [x89, x90]) fun x91 =>
      glt PR x88 false (S.un .not x91) fun x92 =>
      lt PR (S.pick x88 (.bool true) x92) fun x93 =>
      ite' x93
      (K (.bool false))
      (op PR Pn (S.bi .len #[23] 3 [false] [a2]) fun x99 =>
        op PR Pn (S.sl 23 x22 none (some x99) none) fun x100 =>
        op PR Pn (S.fn F.schema_Decode [x20, a1, x100]) fun x101 =>
        op PR Pn (S.ext x101 0) fun x102 =>
        op PR Pn (S.ext x101 1) fun x103 =>
        op PR Pn (S.alloc 29) fun x15 =>
        op PR Pn (S.store 29 x15 x102) fun _ =>
        op PR Pn (S.load 29 x13) fun x104 =>
        op PR Pn (S.load 29 x9) fun x105 =>
        op PR Pn (S.fn F.leatref10_Alike [x104, x105]) fun x106 =>
        gop PR Pn x106 true (S.load 29 x15) fun x108 =>
        gop PR Pn x106 true (S.load 29 x9) fun x109 =>
        gop PR Pn x106 true (S.fn F.leatref10_Alike [x108, x109]) fun x110 =>
        op PR Pn (S.pick x106 x110 (.bool false)) fun x111 =>
        K x111)))
theorem enter.leatlaw10_SchemaGets {Pn : PK} {K : Value → WP} {a0 a1 a2 : Value} {w : World} (h : W.leatlaw10_SchemaGets Pn K a0 a1 a2 w) : op PR Pn (S.fn F.leatlaw10_SchemaGets [a0, a1, a2]) K w :=
  op_call (first := []) (cap := []) (args := [a0, a1, a2]) Go.Proofs.Try.func3 (by kernel_rfl) rfl (calls_of_denF (args := [a0, a1, a2]) (h := (.s none .n (.s none (.s none .n (.c (.s none .n .n) .n)) (.s none .n (.s none .n (.s none .n (.s none .n (.s none (.s none .n (.c (.s none .n .n) .n)) (.s none (.s none (.rg (.ev [0, 2] [] (.hv 1 (.ev [] [2] (.hv 3 (.hv 4 (.ev [5, 6, 7, 8] [] (.hv 9 (.ev [10, 11] [] .fin)))))))) [[], [0], [], [0, 1, 2], [0, 1, 2, 3], [0, 1, 2, 3, 4], [0, 1, 2, 3, 4, 5], [0, 1, 2, 3, 4, 5, 6], [0, 1, 2, 3, 4, 5, 6], [0, 1, 2, 3, 4, 5, 6, 7, 8], [0, 1, 2, 3, 4, 5, 6, 7, 8, 9], [0, 1, 2, 3, 4, 5, 6, 7, 8, 9, 10]]) (.c (.s none .n .n) .n)) (.s none .n (.s none .n .n))))))))))) mixed Go.Proofs.Try.func3 rfl (by kernel_rfl) (Eq.mp (by kernel_rfl) h))
/-- leat/leatlaw10.SchemaBack: function 4. -/
def W.leatlaw10_SchemaBack (Pn : PK) (K : Value → WP) (a0 a1 a2 : Value) : WP :=
  op PR Pn (S.box 29 a2) fun x5 =>
  op PR Pn (S.fn F.leatlaw10_alive []) fun x17 =>
  op PR Pn (S.un .not x17) fun x18 =>
  ite' x18
  (K (.bool false))
  (drawn <|
    lt PR (S.mv a0) fun x20 =>
    lt PR (S.mv a1) fun x22 =>
    lt PR (S.load 29 x5) fun x23 =>
    op PR Pn (S.fn F.leatref10_TwinFields [x20]) fun x21 =>
    rc PR (S.mv a1) x22 <|
    rc PR (S.load 29 x5) x23 <|
    op PR Pn (S.fn F.leatref10_Twin [x23]) fun x24 =>
    rc PR (S.mv a1) x22 <|
    op PR Pn (S.fn F.schema_Encode [x21, x22, x24]) fun x25 =>
    lt PR (S.mv x25) fun x19 =>
    lt PR (S.ext x19 0) fun x26 =>
    lt PR (S.ext x19 1) fun x27 =>
    lt PR (S.mv x26) fun x7 =>
    lt PR (S.mv x27) fun x8 =>
    op PR Pn (S.bin .neq 32 (.tmp 28) (.const (.int .i64 0)) x8 (.int .i64 0)) fun x29 =>
    ite' x29
    (op PR Pn (S.load 29 x5) fun x33 =>
      op PR Pn (S.fn F.leatref10_Encode [a0, a1, x33]) fun x34 =>
      op PR Pn (S.ext x34 0) fun x35 =>
      op PR Pn (S.ext x34 1) fun x36 =>
      op PR Pn (S.bin .neq 3 (.tmp 37) (.const (.int .i64 0)) x36 (.int .i64 0)) fun x38 =>
      gop PR Pn x38 true (S.mv x7) fun x40 =>
      gop PR Pn x38 true (S.bi .len #[23] 3 [false] [x40]) fun x41 =>
      gop PR Pn x38 true (S.bin .eql 3 (.tmp 41) (.const (.int .i64 0)) x41 (.int .i64 0)) fun x42 =>
      op PR Pn (S.pick x38 x42 (.bool false)) fun x43 =>
      K x43)
    (op PR Pn (S.fn F.leatref10_TwinFields [a0]) fun x46 =>
      op PR Pn (S.fn F.schema_Decode [x46, a1, x7]) fun x49 =>
      op PR Pn (S.ext x49 0) fun x50 =>
      op PR Pn (S.ext x49 1) fun x51 =>
      op PR Pn (S.alloc 29) fun x11 =>
      op PR Pn (S.store 29 x11 x50) fun _ =>
      op PR Pn (S.bin .neq 32 (.tmp 52) (.const (.int .i64 0)) x51 (.int .i64 0)) fun x53 =>
      gop PR Pn x53 false (S.load 29 x11) fun x55 =>
      gop PR Pn x53 false (S.load 29 x5) fun x56 =>
      gop PR Pn x53 false (S.fn F.leatref10_Alike [x55, x56]) fun x57 =>
      gop PR Pn x53 false (S.un .not x57) fun x58 =>
      op PR Pn (S.pick x53 (.bool true) x58) fun x59 =>
      ite' x59
      (K (.bool false))
      (op PR Pn (S.fn F.leatref10_TwinFields [a0]) fun x62 =>
        op PR Pn (S.bslice 23 1 [(0, (.int .u8 0))]) fun x65 =>
        op PR Pn (S.fn F.leatref01_Cat [x7, x65]) fun x66 =>
        op PR Pn (S.fn F.schema_Decode [x62, a1, x66]) fun x67 =>
        op PR Pn (S.ext x67 0) fun x68 =>
        op PR Pn (S.ext x67 1) fun x69 =>
        op PR Pn (S.alloc 29) fun x13 =>
        op PR Pn (S.store 29 x13 x68) fun _ =>
        op PR Pn (S.bi .len #[23] 3 [false] [x7]) fun x71 =>
        op PR Pn (S.bin .eql 3 (.tmp 71) (.const (.int .i64 0)) x71 (.int .i64 0)) fun x72 =>
        ite' x72
        (op PR Pn (S.bin .eql 32 (.tmp 73) (.const (.int .i64 2)) x69 (.int .i64 2)) fun x74 =>
          K x74)
        (op PR Pn (S.fn F.leatref10_TwinFields [a0]) fun x77 =>
          op PR Pn (S.bi .len #[23] 3 [false] [x7]) fun x81 =>
          op PR Pn (S.bin .sub 3 (.tmp 81) (.const (.int .i64 1)) x81 (.int .i64 1)) fun x82 =>
          op PR Pn (S.fn F.leatref01_Piece [x7, (.int .i64 0), x82]) fun x83 =>
          op PR Pn (S.fn F.schema_Decode [x77, a1, x83]) fun x84 =>
          op PR Pn (S.ext x84 0) fun x85 =>
          op PR Pn (S.ext x84 1) fun x86 =>
          op PR Pn (S.alloc 29) fun x15 =>
          op PR Pn (S.store 29 x15 x85) fun _ =>
          op PR Pn (S.bin .eql 32 (.tmp 87) (.const (.int .i64 2)) x69 (.int .i64 2)) fun x88 =>
          gop PR Pn x88 false (S.mv x7) fun x90 =>
          gop PR Pn x88 false (S.bi .len #[23] 3 [false] [x90]) fun x91 =>
          gop PR Pn x88 false (S.bin .eql 3 (.tmp 91) (.const (.int .i64 130048)) x91 (.int .i64 130048)) fun x92 =>
          gop PR Pn x88 false (S.mv x92) fun x93 =>
          gop PR Pn x93 true (S.mv x69) fun x94 =>
          gop PR Pn x93 true (S.bin .eql 32 (.tmp 94) (.const (.int .i64 4)) x94 (.int .i64 4)) fun x95 =>
          gop PR Pn x88 false (S.pick x93 x95 (.bool false)) fun x96 =>
          op PR Pn (S.pick x88 (.bool true) x96) fun x97 =>
          gop PR Pn x97 true (S.mv x86) fun x99 =>
          gop PR Pn x97 true (S.bin .eql 32 (.tmp 99) (.const (.int .i64 1)) x99 (.int .i64 1)) fun x100 =>
          op PR Pn (S.pick x97 x100 (.bool false)) fun x101 =>
          K x101))))
theorem enter.leatlaw10_SchemaBack {Pn : PK} {K : Value → WP} {a0 a1 a2 : Value} {w : World} (h : W.leatlaw10_SchemaBack Pn K a0 a1 a2 w) : op PR Pn (S.fn F.leatlaw10_SchemaBack [a0, a1, a2]) K w :=
  op_call (first := []) (cap := []) (args := [a0, a1, a2]) Go.Proofs.Try.func4 (by kernel_rfl) rfl (calls_of_denF (args := [a0, a1, a2]) (h := (.s none .n (.s none (.s none .n (.c (.s none .n .n) .n)) (.s none (.rg (.ev [0, 2, 3] [] (.hv 1 (.ev [] [2, 3] (.hv 4 (.ev [] [2] (.hv 5 (.ev [6, 7, 8, 9, 10] [] .fin))))))) [[], [0], [], [], [0, 1, 3], [0, 1, 2, 3, 4], [0, 1, 2, 3, 4, 5], [0, 1, 2, 3, 4, 5, 6], [0, 1, 2, 3, 4, 5, 6], [0, 1, 2, 3, 4, 5, 6, 7], [0, 1, 2, 3, 4, 5, 6, 7, 8, 9]]) (.s none (.s none .n (.c (.s none .n (.s none .n .n)) .n)) (.s none .n (.s none (.s none .n (.c (.s none .n .n) .n)) (.s none .n (.s none (.s none .n (.c (.s none .n .n) .n)) (.s none .n (.s none .n .n))))))))))) mixed Go.Proofs.Try.func4 rfl (by kernel_rfl) (Eq.mp (by kernel_rfl) h))
/-- leat/leatlaw10.SchemaOnly: function 5. -/
def W.leatlaw10_SchemaOnly (Pn : PK) (K : Value → WP) (a0 a1 a2 : Value) : WP :=
  op PR Pn (S.fn F.leatlaw10_alive []) fun x11 =>
  op PR Pn (S.un .not x11) fun x12 =>
  ite' x12
  (K (.bool false))
  (op PR Pn (S.fn F.leatref10_TwinFields [a0]) fun x15 =>
    op PR Pn (S.fn F.leatref01_Copy [a2]) fun x18 =>
    op PR Pn (S.fn F.schema_Decode [x15, a1, x18]) fun x19 =>
    op PR Pn (S.ext x19 0) fun x20 =>
    op PR Pn (S.ext x19 1) fun x21 =>
    op PR Pn (S.alloc 29) fun x7 =>
    op PR Pn (S.store 29 x7 x20) fun _ =>
    op PR Pn (S.bin .neq 32 (.tmp 22) (.const (.int .i64 0)) x21 (.int .i64 0)) fun x23 =>
    ite' x23
    (op PR Pn (S.load 29 x7) fun x24 =>
      op PR Pn (S.build 29 []) fun x25 =>
      op PR Pn (S.fn F.leatref10_Alike [x24, x25]) fun x26 =>
      K x26)
    (drawn <|
      lt PR (S.mv a0) fun x28 =>
      lt PR (S.mv a1) fun x30 =>
      lt PR (S.load 29 x7) fun x31 =>
      op PR Pn (S.fn F.leatref10_TwinFields [x28]) fun x29 =>
      rc PR (S.mv a1) x30 <|
      rc PR (S.load 29 x7) x31 <|
      op PR Pn (S.fn F.schema_Encode [x29, x30, x31]) fun x32 =>
      lt PR (S.mv x32) fun x27 =>
      lt PR (S.ext x27 0) fun x33 =>
      lt PR (S.ext x27 1) fun x34 =>
      lt PR (S.mv x33) fun x9 =>
      lt PR (S.mv x34) fun x10 =>
      op PR Pn (S.bin .eql 32 (.tmp 35) (.const (.int .i64 0)) x10 (.int .i64 0)) fun x36 =>
      gop PR Pn x36 true (S.mv x9) fun x38 =>
      gop PR Pn x36 true (S.mv a2) fun x39 =>
      gop PR Pn x36 true (S.fn F.leatref01_Same [x38, x39]) fun x40 =>
      op PR Pn (S.pick x36 x40 (.bool false)) fun x41 =>
      K x41))
theorem enter.leatlaw10_SchemaOnly {Pn : PK} {K : Value → WP} {a0 a1 a2 : Value} {w : World} (h : W.leatlaw10_SchemaOnly Pn K a0 a1 a2 w) : op PR Pn (S.fn F.leatlaw10_SchemaOnly [a0, a1, a2]) K w :=
  op_call (first := []) (cap := []) (args := [a0, a1, a2]) Go.Proofs.Try.func5 (by kernel_rfl) rfl (calls_of_denF (args := [a0, a1, a2]) (h := (.s none .n (.s none (.s none .n (.c (.s none .n .n) .n)) (.s none .n (.s none (.s none .n (.c (.s none .n .n) .n)) (.s none (.rg (.ev [0, 2, 3] [] (.hv 1 (.ev [] [2, 3] (.hv 4 (.ev [5, 6, 7, 8, 9] [] .fin))))) [[], [0], [], [], [0, 1, 2, 3], [0, 1, 2, 3, 4], [0, 1, 2, 3, 4, 5], [0, 1, 2, 3, 4, 5], [0, 1, 2, 3, 4, 5, 6], [0, 1, 2, 3, 4, 5, 6, 7, 8]]) (.s none .n .n))))))) mixed Go.Proofs.Try.func5 rfl (by kernel_rfl) (Eq.mp (by kernel_rfl) h))
/-- leat/leatlaw10.SchemaTables: function 6. -/
def W.leatlaw10_SchemaTables (Pn : PK) (K : Value → WP) (a0 a1 : Value) : WP :=
  op PR Pn (S.fn F.leatlaw10_alive []) fun x15 =>
  op PR Pn (S.un .not x15) fun x16 =>
  ite' x16
  (K (.bool false))
  (op PR Pn (S.fn F.schema_Table [a0, a1]) fun x20 =>
    op PR Pn (S.ext x20 0) fun x21 =>
    op PR Pn (S.ext x20 1) fun x22 =>
    op PR Pn (S.fn F.schema_Table [a0, a1]) fun x26 =>
    op PR Pn (S.ext x26 0) fun x27 =>
    op PR Pn (S.ext x26 1) fun x28 =>
    op PR Pn (S.fn F.leatref10_Table [a0, a1]) fun x32 =>
    op PR Pn (S.ext x32 0) fun x33 =>
    op PR Pn (S.ext x32 1) fun x34 =>
    op PR Pn (S.bin .neq 3 (.tmp 35) (.tmp 36) x22 x34) fun x37 =>
    gop PR Pn x37 false (S.mv x21) fun x39 =>
    gop PR Pn x37 false (S.mv x33) fun x40 =>
    gop PR Pn x37 false (S.fn F.leatref10_AlikeFields [x39, x40]) fun x41 =>
    gop PR Pn x37 false (S.un .not x41) fun x42 =>
    op PR Pn (S.pick x37 (.bool true) x42) fun x43 =>
    gop PR Pn x43 false (S.mv x27) fun x45 =>
    gop PR Pn x43 false (S.mv x33) fun x46 =>
    gop PR Pn x43 false (S.fn F.leatref10_AlikeFields [x45, x46]) fun x47 =>
    gop PR Pn x43 false (S.un .not x47) fun x48 =>
    op PR Pn (S.pick x43 (.bool true) x48) fun x49 =>
    ite' x49
    (K (.bool false))
    (op PR Pn (S.bin .eql 32 (.tmp 50) (.const (.int .i64 0)) x22 (.int .i64 0)) fun x51 =>
      gop PR Pn x51 true (S.mv x21) fun x53 =>
      gop PR Pn x51 true (S.fn F.schema_Check [x53]) fun x54 =>
      gop PR Pn x51 true (S.bin .neq 32 (.tmp 54) (.const (.int .i64 0)) x54 (.int .i64 0)) fun x55 =>
      op PR Pn (S.pick x51 x55 (.bool false)) fun x56 =>
      ite' x56
      (K (.bool false))
      (op PR Pn (S.fn F.leatlaw10_spoil [x21]) fun x58 =>
        op PR Pn (S.fn F.leatref10_AlikeFields [x27, x33]) fun x61 =>
        op PR Pn (S.un .not x61) fun x62 =>
        ite' x62
        (K (.bool false))
        (op PR Pn (S.fn F.schema_Table [a0, a1]) fun x66 =>
          op PR Pn (S.ext x66 0) fun x67 =>
          op PR Pn (S.ext x66 1) fun x68 =>
          op PR Pn (S.fn F.schema_Table [(.int .i16 0), (.bool false)]) fun x70 =>
          op PR Pn (S.ext x70 0) fun x71 =>
          op PR Pn (S.ext x70 1) fun x72 =>
          op PR Pn (S.fn F.leatref10_AlikeFields [x67, x33]) fun x75 =>
          gop PR Pn x75 true (S.mv x71) fun x77 =>
          gop PR Pn x75 true (S.bi .len #[22] 3 [false] [x77]) fun x78 =>
          gop PR Pn x75 true (S.bin .eql 3 (.tmp 78) (.const (.int .i64 4)) x78 (.int .i64 4)) fun x79 =>
          op PR Pn (S.pick x75 x79 (.bool false)) fun x80 =>
          gop PR Pn x80 true (S.mv x72) fun x82 =>
          gop PR Pn x80 true (S.bin .eql 32 (.tmp 82) (.const (.int .i64 0)) x82 (.int .i64 0)) fun x83 =>
          op PR Pn (S.pick x80 x83 (.bool false)) fun x84 =>
          K x84))))
theorem enter.leatlaw10_SchemaTables {Pn : PK} {K : Value → WP} {a0 a1 : Value} {w : World} (h : W.leatlaw10_SchemaTables Pn K a0 a1 w) : op PR Pn (S.fn F.leatlaw10_SchemaTables [a0, a1]) K w :=
  op_call (first := []) (cap := []) (args := [a0, a1]) Go.Proofs.Try.func6 (by kernel_rfl) rfl (calls_of_denF (args := [a0, a1]) (h := (.s none .n (.s none (.s none .n (.c (.s none .n .n) .n)) (.s none .n (.s none .n (.s none .n (.s none (.s none .n (.c (.s none .n .n) .n)) (.s none (.s none .n (.c (.s none .n .n) .n)) (.s none .n (.s none (.s none .n (.c (.s none .n .n) .n)) (.s none .n (.s none .n (.s none .n .n))))))))))))) mixed Go.Proofs.Try.func6 rfl (by kernel_rfl) (Eq.mp (by kernel_rfl) h))
/-- leat/leatlaw10.alive: function 7. -/
def W.leatlaw10_alive (Pn : PK) (K : Value → WP) : WP :=
  op PR Pn (S.build 29 [(0, (.int .i64 2)), (1, (.int .i64 7))]) fun x8 =>
  op PR Pn (S.build 29 [(0, (.int .i64 6)), (2, (.bool true))]) fun x9 =>
  op PR Pn (S.bslice 27 2 [(0, x8), (1, x9)]) fun x10 =>
  op PR Pn (S.build 29 [(0, (.int .i64 10)), (4, x10)]) fun x11 =>
  op PR Pn (S.alloc 29) fun x1 =>
  op PR Pn (S.store 29 x1 x11) fun _ =>
  drawn <|
  lt PR (S.load 29 x1) fun x14 =>
  op PR Pn (S.fn F.leatlaw10_pair []) fun x13 =>
  rc PR (S.load 29 x1) x14 <|
  op PR Pn (S.fn F.schema_Encode [x13, (.int .i64 1), x14]) fun x15 =>
  lt PR (S.mv x15) fun x12 =>
  lt PR (S.ext x12 0) fun x16 =>
  lt PR (S.ext x12 1) fun x17 =>
  lt PR (S.mv x16) fun x2 =>
  lt PR (S.mv x17) fun x3 =>
  op PR Pn (S.fn F.leatlaw10_pair []) fun x19 =>
  op PR Pn (S.bslice 23 4 [(0, (.int .u8 0)), (1, (.int .u8 7)), (2, (.int .u8 255)), (3, (.int .u8 255))]) fun x20 =>
  op PR Pn (S.fn F.schema_Decode [x19, (.int .i64 1), x20]) fun x21 =>
  op PR Pn (S.ext x21 0) fun x22 =>
  op PR Pn (S.ext x21 1) fun x23 =>
  op PR Pn (S.alloc 29) fun x4 =>
  op PR Pn (S.store 29 x4 x22) fun _ =>
  op PR Pn (S.fn F.leatlaw10_pair []) fun x25 =>
  op PR Pn (S.bslice 23 4 [(0, (.int .u8 0)), (1, (.int .u8 7)), (2, (.int .u8 255)), (3, (.int .u8 254))]) fun x26 =>
  op PR Pn (S.fn F.schema_Decode [x25, (.int .i64 1), x26]) fun x27 =>
  op PR Pn (S.ext x27 0) fun x28 =>
  op PR Pn (S.ext x27 1) fun x29 =>
  op PR Pn (S.alloc 29) fun x6 =>
  op PR Pn (S.store 29 x6 x28) fun _ =>
  op PR Pn (S.bin .eql 32 (.tmp 30) (.const (.int .i64 0)) x3 (.int .i64 0)) fun x31 =>
  gop PR Pn x31 true (S.mv x23) fun x33 =>
  gop PR Pn x31 true (S.bin .eql 32 (.tmp 33) (.const (.int .i64 0)) x33 (.int .i64 0)) fun x34 =>
  op PR Pn (S.pick x31 x34 (.bool false)) fun x35 =>
  gop PR Pn x35 true (S.mv x29) fun x37 =>
  gop PR Pn x35 true (S.bin .eql 32 (.tmp 37) (.const (.int .i64 5)) x37 (.int .i64 5)) fun x38 =>
  op PR Pn (S.pick x35 x38 (.bool false)) fun x39 =>
  gop PR Pn x39 true (S.mv x2) fun x41 =>
  gop PR Pn x39 true (S.bslice 23 4 [(0, (.int .u8 0)), (1, (.int .u8 7)), (2, (.int .u8 255)), (3, (.int .u8 255))]) fun x42 =>
  gop PR Pn x39 true (S.fn F.leatref01_Same [x41, x42]) fun x43 =>
  op PR Pn (S.pick x39 x43 (.bool false)) fun x44 =>
  gop PR Pn x44 true (S.load 29 x4) fun x46 =>
  gop PR Pn x44 true (S.load 29 x1) fun x47 =>
  gop PR Pn x44 true (S.fn F.leatref10_Alike [x46, x47]) fun x48 =>
  op PR Pn (S.pick x44 x48 (.bool false)) fun x49 =>
  K x49
theorem enter.leatlaw10_alive {Pn : PK} {K : Value → WP} {w : World} (h : W.leatlaw10_alive Pn K  w) : op PR Pn (S.fn F.leatlaw10_alive []) K w :=
  op_call (first := []) (cap := []) (args := []) Go.Proofs.Try.func7 (by kernel_rfl) rfl (calls_of_denF (args := []) (h := (.s none .n (.s none .n (.s none (.rg (.ev [1] [] (.hv 0 (.ev [] [1] (.hv 2 (.ev [3, 4, 5, 6, 7] [] .fin))))) [[], [], [0, 1], [0, 1, 2], [0, 1, 2, 3], [0, 1, 2, 3], [0, 1, 2, 3, 4], [0, 1, 2, 3, 4, 5, 6]]) (.s none .n (.s none .n (.s none .n .n))))))) mixed Go.Proofs.Try.func7 rfl (by kernel_rfl) (Eq.mp (by kernel_rfl) h))
/-- leat/leatref10.TwinFields: function 8. -/
def W.leatref10_TwinFields (Pn : PK) (K : Value → WP) (a0 : Value) : WP :=
  op PR Pn (S.bslice 22 0 []) fun x5 =>
  L2 x5 (.int .i64 0) (fun x3 x4 xk =>
    op PR Pn (S.bi .len #[22] 3 [false] [a0]) fun x8 =>
    op PR Pn (S.bin .lss 3 (.tmp 6) (.tmp 8) x4 x8) fun x9 =>
    ite' x9
    (drawn <|
      lt PR (S.mv x3) fun x12 =>
      lt PR (S.mv a0) fun x13 =>
      lt PR (S.mv x4) fun x14 =>
      lt PR (S.ia 22 x13 x14) fun x15 =>
      lt PR (S.fa 60 x15 0) fun x16 =>
      lt PR (S.load 9 x16) fun x17 =>
      lt PR (S.mv a0) fun x18 =>
      lt PR (S.mv x4) fun x19 =>
      lt PR (S.ia 22 x18 x19) fun x20 =>
      lt PR (S.fa 60 x20 1) fun x21 =>
      lt PR (S.load 3 x21) fun x22 =>
      lt PR (S.mv a0) fun x23 =>
      lt PR (S.mv x4) fun x24 =>
      lt PR (S.ia 22 x23 x24) fun x25 =>
      lt PR (S.fa 60 x25 2) fun x26 =>
      lt PR (S.load 3 x26) fun x27 =>
      lt PR (S.mv a0) fun x28 =>
      lt PR (S.mv x4) fun x29 =>
      lt PR (S.ia 22 x28 x29) fun x30 =>
      lt PR (S.fa 60 x30 3) fun x31 =>
      lt PR (S.load 3 x31) fun x32 =>
      lt PR (S.mv a0) fun x33 =>
      lt PR (S.mv x4) fun x34 =>
      lt PR (S.ia 22 x33 x34) fun x35 =>
      lt PR (S.fa 60 x35 4) fun x36 =>
      lt PR (S.load 22 x36) fun x37 =>
      op PR Pn (S.fn F.leatref10_TwinFields [x37]) fun x38 =>
      lt PR (S.build 60 [(0, x17), (1, x22), (2, x27), (3, x32), (4, x38)]) fun x39 =>
      rc PR (S.mv x3) x12 <|
      rc PR (S.mv a0) x13 <|
      rc PR (S.mv x4) x14 <|
      rc PR (S.ia 22 x13 x14) x15 <|
      rc PR (S.fa 60 x15 0) x16 <|
      rc PR (S.load 9 x16) x17 <|
      rc PR (S.mv a0) x18 <|
      rc PR (S.mv x4) x19 <|
      rc PR (S.ia 22 x18 x19) x20 <|
      rc PR (S.fa 60 x20 1) x21 <|
      rc PR (S.load 3 x21) x22 <|
      rc PR (S.mv a0) x23 <|
      rc PR (S.mv x4) x24 <|
      rc PR (S.ia 22 x23 x24) x25 <|
      rc PR (S.fa 60 x25 2) x26 <|
      rc PR (S.load 3 x26) x27 <|
      rc PR (S.mv a0) x28 <|
      rc PR (S.mv x4) x29 <|
      rc PR (S.ia 22 x28 x29) x30 <|
      rc PR (S.fa 60 x30 3) x31 <|
      rc PR (S.load 3 x31) x32 <|
      op PR Pn (S.bslice 22 1 [(0, x39)]) fun x40 =>
      rc PR (S.mv x3) x12 <|
      op PR Pn (S.bi .append #[22, 22] 22 [false, false] [x12, x40]) fun x41 =>
      op PR Pn (S.mv x41) fun x3_1 =>
      op PR Pn (S.bin .add 3 (.tmp 10) (.const (.int .i64 1)) x4 (.int .i64 1)) fun x11 =>
      xk x3_1 x11)
    (K x3))
theorem enter.leatref10_TwinFields {Pn : PK} {K : Value → WP} {a0 : Value} {w : World} (h : W.leatref10_TwinFields Pn K a0 w) : op PR Pn (S.fn F.leatref10_TwinFields [a0]) K w :=
  op_call (first := []) (cap := []) (args := [a0]) Go.Proofs.Try.func8 (by kernel_rfl) rfl (calls_of_denF (args := [a0]) (h := (.s none .n (.s none .n (.s none (.s none .n (.bl (.lp [3, 4] (.s none (.s none .n (.c .n .n)) (.s none (.bl (.rg (.ev [0, 1, 2, 3, 4, 5, 6, 7, 8, 9, 10, 11, 12, 13, 14, 15, 16, 17, 18, 19, 20, 21, 22, 23, 24, 25] [] (.hv 26 (.ev [27] [0, 1, 2, 3, 4, 5, 6, 7, 8, 9, 10, 11, 12, 13, 14, 15, 16, 17, 18, 19, 20] (.hv 28 (.ev [] [0] (.hv 29 (.hv 30 .fin))))))) [[], [], [], [1, 2], [1, 2, 3], [1, 2, 3, 4], [], [], [6, 7], [6, 7, 8], [6, 7, 8, 9], [], [], [11, 12], [11, 12, 13], [11, 12, 13, 14], [], [], [16, 17], [16, 17, 18], [16, 17, 18, 19], [], [], [21, 22], [21, 22, 23], [21, 22, 23, 24], [21, 22, 23, 24, 25], [1, 2, 3, 4, 5, 6, 7, 8, 9, 10, 11, 12, 13, 14, 15, 16, 17, 18, 19, 20, 21, 22, 23, 24, 25, 26], [1, 2, 3, 4, 5, 6, 7, 8, 9, 10, 11, 12, 13, 14, 15, 16, 17, 18, 19, 20, 21, 22, 23, 24, 25, 26, 27], [0, 1, 2, 3, 4, 5, 6, 7, 8, 9, 10, 11, 12, 13, 14, 15, 16, 17, 18, 19, 20, 21, 22, 23, 24, 25, 26, 27, 28], [0, 1, 2, 3, 4, 5, 6, 7, 8, 9, 10, 11, 12, 13, 14, 15, 16, 17, 18, 19, 20, 21, 22, 23, 24, 25, 26, 27, 28, 29]])) .n))))) (.s none .n .n))))) mixed Go.Proofs.Try.func8 rfl (by kernel_rfl) (Eq.mp (by kernel_rfl) h))
/-- leat/leatref01.Wide: function 9. -/
def W.leatref01_Wide (Pn : PK) (K : Value → WP) (a0 : Value) : WP :=
  op PR Pn (S.fn F.leatref01_Copy [a0]) fun x6 =>
  L2 x6 (.int .i64 0) (fun x3 x4 xk =>
    op PR Pn (S.bin .lss 3 (.tmp 7) (.const (.int .i64 96)) x4 (.int .i64 96)) fun x8 =>
    ite' x8
    (op PR Pn (S.bin .mul 3 (.tmp 12) (.const (.int .i64 7)) x4 (.int .i64 7)) fun x13 =>
      op PR Pn (S.bin .add 3 (.tmp 13) (.const (.int .i64 13)) x13 (.int .i64 13)) fun x14 =>
      op PR Pn (S.conv 3 5 x14) fun x15 =>
      op PR Pn (S.bslice 23 1 [(0, x15)]) fun x16 =>
      op PR Pn (S.bi .append #[23, 23] 23 [false, false] [x3, x16]) fun x17 =>
      op PR Pn (S.bin .add 3 (.tmp 9) (.const (.int .i64 1)) x4 (.int .i64 1)) fun x10 =>
      xk x17 x10)
    (K x3))
theorem enter.leatref01_Wide {Pn : PK} {K : Value → WP} {a0 : Value} {w : World} (h : W.leatref01_Wide Pn K a0 w) : op PR Pn (S.fn F.leatref01_Wide [a0]) K w :=
  op_call (first := []) (cap := []) (args := [a0]) Go.Proofs.Try.func9 (by kernel_rfl) rfl (calls_of_denF (args := [a0]) (h := (.s none .n (.s none .n (.s none (.s none .n (.bl (.lp [3, 4] (.s none (.s none .n (.c .n .n)) (.s none (.bl .n) .n))))) (.s none .n .n))))) mixed Go.Proofs.Try.func9 rfl (by kernel_rfl) (Eq.mp (by kernel_rfl) h))
/-- leat/leatref10.Decode: function 10. -/
def W.leatref10_Decode (Pn : PK) (K : Value → WP) (a0 a1 a2 : Value) : WP :=
  op PR Pn (S.alloc 29) fun x6 =>
  op PR Pn (S.fn F.leatref10_begin [a0, a1]) fun x14 =>
  op PR Pn (S.bin .neq 3 (.tmp 15) (.const (.int .i64 0)) x14 (.int .i64 0)) fun x16 =>
  ite' x16
  (op PR Pn (S.build 29 []) fun x17 =>
    op PR Pn (S.store 29 x6 x17) fun _ =>
    ldR PR 29 x6 fun xr => K (.tuple #[xr, x14]))
  (op PR Pn (S.bi .len #[23] 3 [false] [a2]) fun x20 =>
    op PR Pn (S.bin .gtr 3 (.tmp 20) (.const (.int .i64 130048)) x20 (.int .i64 130048)) fun x21 =>
    ite' x21
    (op PR Pn (S.build 29 []) fun x22 =>
      op PR Pn (S.store 29 x6 x22) fun _ =>
      ldR PR 29 x6 fun xr_1 => K (.tuple #[xr_1, (.int .i64 4)]))
    (op PR Pn (S.fn F.leatref10_readParts [a0, a1, a2, (.int .i64 0)]) fun x27 =>
      op PR Pn (S.ext x27 0) fun x28 =>
      op PR Pn (S.ext x27 1) fun x29 =>
      op PR Pn (S.ext x27 2) fun x30 =>
      op PR Pn (S.alloc 29) fun x9 =>
      op PR Pn (S.store 29 x9 x28) fun _ =>
      op PR Pn (S.bin .neq 3 (.tmp 31) (.const (.int .i64 0)) x30 (.int .i64 0)) fun x32 =>
      ite' x32
      (op PR Pn (S.build 29 []) fun x33 =>
        op PR Pn (S.store 29 x6 x33) fun _ =>
        ldR PR 29 x6 fun xr_2 => K (.tuple #[xr_2, x30]))
      (op PR Pn (S.bi .len #[23] 3 [false] [a2]) fun x37 =>
        op PR Pn (S.bin .lss 3 (.tmp 35) (.tmp 37) x29 x37) fun x38 =>
        ite' x38
        (op PR Pn (S.build 29 []) fun x39 =>
          op PR Pn (S.store 29 x6 x39) fun _ =>
          ldR PR 29 x6 fun xr_3 => K (.tuple #[xr_3, (.int .i64 2)]))
        (op PR Pn (S.load 29 x9) fun x40 =>
          op PR Pn (S.store 29 x6 x40) fun _ =>
          ldR PR 29 x6 fun xr_4 => K (.tuple #[xr_4, (.int .i64 0)])))))
theorem enter.leatref10_Decode {Pn : PK} {K : Value → WP} {a0 a1 a2 : Value} {w : World} (h : W.leatref10_Decode Pn K a0 a1 a2 w) : op PR Pn (S.fn F.leatref10_Decode [a0, a1, a2]) K w :=
  op_call (first := []) (cap := []) (args := [a0, a1, a2]) Go.Proofs.Try.func10 (by kernel_rfl) rfl (calls_of_denF (args := [a0, a1, a2]) (h := (.s none .n (.s none .n (.s none (.s none .n (.c (.s none .n .n) .n)) (.s none (.s none .n (.c (.s none .n .n) .n)) (.s none .n (.s none (.s none .n (.c (.s none .n .n) .n)) (.s none (.s none .n (.c (.s none .n .n) .n)) (.s none .n .n))))))))) mixed Go.Proofs.Try.func10 rfl (by kernel_rfl) (Eq.mp (by kernel_rfl) h))
/-- leat/schema.Decode: function 11. -/
def W.schema_Decode (Pn : PK) (K : Value → WP) (a0 a1 a2 : Value) : WP :=
  op PR Pn (S.alloc 29) fun x6 =>
  op PR Pn (S.fn F.schema_root [a0, a1]) fun x15 =>
  op PR Pn (S.ext x15 0) fun x16 =>
  op PR Pn (S.ext x15 1) fun x17 =>
  op PR Pn (S.alloc 66) fun x8 =>
  op PR Pn (S.store 66 x8 x16) fun _ =>
  op PR Pn (S.bin .neq 32 (.tmp 18) (.const (.int .i64 0)) x17 (.int .i64 0)) fun x19 =>
  ite' x19
  (op PR Pn (S.build 29 []) fun x20 =>
    op PR Pn (S.store 29 x6 x20) fun _ =>
    ldR PR 29 x6 fun xr => K (.tuple #[xr, x17]))
  (op PR Pn (S.bi .len #[23] 3 [false] [a2]) fun x23 =>
    op PR Pn (S.bin .gtr 3 (.tmp 23) (.const (.int .i64 130048)) x23 (.int .i64 130048)) fun x24 =>
    ite' x24
    (op PR Pn (S.build 29 []) fun x25 =>
      op PR Pn (S.store 29 x6 x25) fun _ =>
      ldR PR 29 x6 fun xr_1 => K (.tuple #[xr_1, (.int .i64 4)]))
    (op PR Pn (S.fn F.cursor_NewReader [a2]) fun x27 =>
      op PR Pn (S.load 66 x8) fun x29 =>
      op PR Pn (S.fn F.schema_record_get [x29, x27]) fun x31 =>
      op PR Pn (S.ext x31 0) fun x32 =>
      op PR Pn (S.ext x31 1) fun x33 =>
      op PR Pn (S.alloc 29) fun x11 =>
      op PR Pn (S.store 29 x11 x32) fun _ =>
      J1 (fun x9 =>
        op PR Pn (S.bin .neq 32 (.tmp 38) (.const (.int .i64 0)) x9 (.int .i64 0)) fun x39 =>
        ite' x39
        (op PR Pn (S.build 29 []) fun x40 =>
          op PR Pn (S.store 29 x6 x40) fun _ =>
          ldR PR 29 x6 fun xr_2 => K (.tuple #[xr_2, x9]))
        (op PR Pn (S.load 29 x11) fun x42 =>
          op PR Pn (S.store 29 x6 x42) fun _ =>
          ldR PR 29 x6 fun xr_3 => K (.tuple #[xr_3, (.int .i64 0)])))
      (fun xk =>
        op PR Pn (S.bin .eql 32 (.tmp 34) (.const (.int .i64 0)) x33 (.int .i64 0)) fun x35 =>
        ite' x35
        (op PR Pn (S.fn F.cursor_Reader_End [x27]) fun x37 =>
          xk x37)
        (xk x33))))
theorem enter.schema_Decode {Pn : PK} {K : Value → WP} {a0 a1 a2 : Value} {w : World} (h : W.schema_Decode Pn K a0 a1 a2 w) : op PR Pn (S.fn F.schema_Decode [a0, a1, a2]) K w :=
  op_call (first := []) (cap := []) (args := [a0, a1, a2]) Go.Proofs.Try.func11 (by kernel_rfl) rfl (calls_of_denF (args := [a0, a1, a2]) (h := (.s none .n (.s none .n (.s none (.s none .n (.c (.s none .n .n) .n)) (.s none (.s none .n (.c (.s none .n .n) .n)) (.s none .n (.s none .n (.s (some [9]) (.s none .n (.c .n .n)) (.s none (.s none .n (.c (.s none .n .n) .n)) (.s none .n .n)))))))))) mixed Go.Proofs.Try.func11 rfl (by kernel_rfl) (Eq.mp (by kernel_rfl) h))
/-- leat/leatref10.Alike: function 12. -/
def W.leatref10_Alike (Pn : PK) (K : Value → WP) (a0 a1 : Value) : WP :=
  op PR Pn (S.box 29 a0) fun x2 =>
  op PR Pn (S.box 29 a1) fun x3 =>
  op PR Pn (S.fa 29 x2 0) fun x6 =>
  op PR Pn (S.load 3 x6) fun x7 =>
  op PR Pn (S.fa 29 x3 0) fun x8 =>
  op PR Pn (S.load 3 x8) fun x9 =>
  op PR Pn (S.bin .neq 3 (.tmp 7) (.tmp 9) x7 x9) fun x10 =>
  gop PR Pn x10 false (S.fa 29 x2 1) fun x12 =>
  gop PR Pn x10 false (S.load 2 x12) fun x13 =>
  gop PR Pn x10 false (S.fa 29 x3 1) fun x14 =>
  gop PR Pn x10 false (S.load 2 x14) fun x15 =>
  gop PR Pn x10 false (S.bin .neq 2 (.tmp 13) (.tmp 15) x13 x15) fun x16 =>
  op PR Pn (S.pick x10 (.bool true) x16) fun x17 =>
  gop PR Pn x17 false (S.fa 29 x2 2) fun x19 =>
  gop PR Pn x17 false (S.load 4 x19) fun x20 =>
  gop PR Pn x17 false (S.fa 29 x3 2) fun x21 =>
  gop PR Pn x17 false (S.load 4 x21) fun x22 =>
  gop PR Pn x17 false (S.bin .neq 4 (.tmp 20) (.tmp 22) x20 x22) fun x23 =>
  op PR Pn (S.pick x17 (.bool true) x23) fun x24 =>
  gop PR Pn x24 false (S.fa 29 x2 3) fun x26 =>
  gop PR Pn x24 false (S.load 23 x26) fun x27 =>
  gop PR Pn x24 false (S.fa 29 x3 3) fun x28 =>
  gop PR Pn x24 false (S.load 23 x28) fun x29 =>
  gop PR Pn x24 false (S.fn F.leatref01_Same [x27, x29]) fun x30 =>
  gop PR Pn x24 false (S.un .not x30) fun x31 =>
  op PR Pn (S.pick x24 (.bool true) x31) fun x32 =>
  gop PR Pn x32 false (S.fa 29 x2 4) fun x34 =>
  gop PR Pn x32 false (S.load 27 x34) fun x35 =>
  gop PR Pn x32 false (S.bi .len #[27] 3 [false] [x35]) fun x36 =>
  gop PR Pn x32 false (S.fa 29 x3 4) fun x37 =>
  gop PR Pn x32 false (S.load 27 x37) fun x38 =>
  gop PR Pn x32 false (S.bi .len #[27] 3 [false] [x38]) fun x39 =>
  gop PR Pn x32 false (S.bin .neq 3 (.tmp 36) (.tmp 39) x36 x39) fun x40 =>
  op PR Pn (S.pick x32 (.bool true) x40) fun x41 =>
  ite' x41
  (K (.bool false))
  (L2 (.bool false) (.int .i64 0) (fun x4 x5 xk =>
      op PR Pn (S.fa 29 x2 4) fun x43 =>
      op PR Pn (S.load 27 x43) fun x44 =>
      op PR Pn (S.bi .len #[27] 3 [false] [x44]) fun x45 =>
      op PR Pn (S.bin .lss 3 (.tmp 42) (.tmp 45) x5 x45) fun x46 =>
      ite' x46
      (drawn <|
        lt PR (S.fa 29 x2 4) fun x49 =>
        lt PR (S.load 27 x49) fun x50 =>
        lt PR (S.mv x5) fun x51 =>
        lt PR (S.ia 27 x50 x51) fun x52 =>
        lt PR (S.load 29 x52) fun x53 =>
        lt PR (S.fa 29 x3 4) fun x54 =>
        lt PR (S.load 27 x54) fun x55 =>
        lt PR (S.mv x5) fun x56 =>
        lt PR (S.ia 27 x55 x56) fun x57 =>
        lt PR (S.load 29 x57) fun x58 =>
        op PR Pn (S.fn F.leatref10_Alike [x53, x58]) fun x59 =>
        lt PR (S.un .not x59) fun x60 =>
        ite' x60
        (K (.bool false))
        (op PR Pn (S.bin .add 3 (.tmp 47) (.const (.int .i64 1)) x5 (.int .i64 1)) fun x48 =>
          xk x4 x48))
      (K (.bool true))))
theorem enter.leatref10_Alike {Pn : PK} {K : Value → WP} {a0 a1 : Value} {w : World} (h : W.leatref10_Alike Pn K a0 a1 w) : op PR Pn (S.fn F.leatref10_Alike [a0, a1]) K w :=
  op_call (first := []) (cap := []) (args := [a0, a1]) Go.Proofs.Try.func12 (by kernel_rfl) rfl (calls_of_denF (args := [a0, a1]) (h := (.s none .n (.s none (.s none .n (.c (.s none .n .n) .n)) (.s none (.s none .n (.bl (.lp [4, 5] (.s none (.s none .n (.c .n .n)) (.s none (.bl (.s none (.rg (.ev [0, 1, 2, 3, 4, 5, 6, 7, 8, 9] [] (.hv 10 (.ev [11] [] .fin))) [[], [0], [], [0, 1, 2], [0, 1, 2, 3], [], [5], [], [5, 6, 7], [5, 6, 7, 8], [0, 1, 2, 3, 4, 5, 6, 7, 8, 9], [0, 1, 2, 3, 4, 5, 6, 7, 8, 9, 10]]) (.c (.s none .n .n) .n))) .n))))) (.s none .n .n))))) mixed Go.Proofs.Try.func12 rfl (by kernel_rfl) (Eq.mp (by kernel_rfl) h))
/-- leat/leatref10.AlikeFields: function 13. -/
def W.leatref10_AlikeFields (Pn : PK) (K : Value → WP) (a0 a1 : Value) : WP :=
  op PR Pn (S.bi .len #[22] 3 [false] [a0]) fun x7 =>
  op PR Pn (S.bi .len #[22] 3 [false] [a1]) fun x9 =>
  op PR Pn (S.bin .neq 3 (.tmp 7) (.tmp 9) x7 x9) fun x10 =>
  ite' x10
  (K (.bool false))
  (L2 (.bool false) (.int .i64 0) (fun x4 x5 xk =>
      op PR Pn (S.bi .len #[22] 3 [false] [a0]) fun x13 =>
      op PR Pn (S.bin .lss 3 (.tmp 11) (.tmp 13) x5 x13) fun x14 =>
      ite' x14
      (drawn <|
        lt PR (S.mv a0) fun x17 =>
        lt PR (S.mv x5) fun x18 =>
        lt PR (S.ia 22 x17 x18) fun x19 =>
        lt PR (S.fa 60 x19 0) fun x20 =>
        lt PR (S.load 9 x20) fun x21 =>
        lt PR (S.mv a1) fun x22 =>
        lt PR (S.mv x5) fun x23 =>
        lt PR (S.ia 22 x22 x23) fun x24 =>
        lt PR (S.fa 60 x24 0) fun x25 =>
        lt PR (S.load 9 x25) fun x26 =>
        lt PR (S.bin .neq 9 (.tmp 21) (.tmp 26) x21 x26) fun x27 =>
        lt PR (S.mv x27) fun x28 =>
        glt PR x28 false (S.mv a0) fun x29 =>
        glt PR x28 false (S.mv x5) fun x30 =>
        glt PR x28 false (S.ia 22 x29 x30) fun x31 =>
        glt PR x28 false (S.fa 60 x31 1) fun x32 =>
        glt PR x28 false (S.load 3 x32) fun x33 =>
        glt PR x28 false (S.mv a1) fun x34 =>
        glt PR x28 false (S.mv x5) fun x35 =>
        glt PR x28 false (S.ia 22 x34 x35) fun x36 =>
        glt PR x28 false (S.fa 60 x36 1) fun x37 =>
        glt PR x28 false (S.load 3 x37) fun x38 =>
        glt PR x28 false (S.bin .neq 3 (.tmp 33) (.tmp 38) x33 x38) fun x39 =>
        lt PR (S.pick x28 (.bool true) x39) fun x40 =>
        lt PR (S.mv x40) fun x41 =>
        glt PR x41 false (S.mv a0) fun x42 =>
        glt PR x41 false (S.mv x5) fun x43 =>
        glt PR x41 false (S.ia 22 x42 x43) fun x44 =>
        glt PR x41 false (S.fa 60 x44 2) fun x45 =>
        glt PR x41 false (S.load 3 x45) fun x46 =>
        glt PR x41 false (S.mv a1) fun x47 =>
        glt PR x41 false (S.mv x5) fun x48 =>
        glt PR x41 false (S.ia 22 x47 x48) fun x49 =>
        glt PR x41 false (S.fa 60 x49 2) fun x50 =>
        glt PR x41 false (S.load 3 x50) fun x51 =>
        glt PR x41 false (S.bin .neq 3 (.tmp 46) (.tmp 51) x46 x51) fun x52 =>
        lt PR (S.pick x41 (.bool true) x52) fun x53 =>
        lt PR (S.mv x53) fun x54 =>
        glt PR x54 false (S.mv a0) fun x55 =>
        glt PR x54 false (S.mv x5) fun x56 =>
        glt PR x54 false (S.ia 22 x55 x56) fun x57 =>
        glt PR x54 false (S.fa 60 x57 3) fun x58 =>
        glt PR x54 false (S.load 3 x58) fun x59 =>
        glt PR x54 false (S.mv a1) fun x60 =>
        glt PR x54 false (S.mv x5) fun x61 =>
        glt PR x54 false (S.ia 22 x60 x61) fun x62 =>
        glt PR x54 false (S.fa 60 x62 3) fun x63 =>
        glt PR x54 false (S.load 3 x63) fun x64 =>
        glt PR x54 false (S.bin .neq 3 (.tmp 59) (.tmp 64) x59 x64) fun x65 =>
        lt PR (S.pick x54 (.bool true) x65) fun x66 =>
        ite' x66
        (K (.bool false))
        (drawn <|
          lt PR (S.mv a0) fun x67 =>
          lt PR (S.mv x5) fun x68 =>
          lt PR (S.ia 22 x67 x68) fun x69 =>
          lt PR (S.fa 60 x69 4) fun x70 =>
          lt PR (S.load 22 x70) fun x71 =>
          lt PR (S.mv a1) fun x72 =>
          lt PR (S.mv x5) fun x73 =>
          lt PR (S.ia 22 x72 x73) fun x74 =>
          lt PR (S.fa 60 x74 4) fun x75 =>
          lt PR (S.load 22 x75) fun x76 =>
          op PR Pn (S.fn F.leatref10_AlikeFields [x71, x76]) fun x77 =>
          lt PR (S.un .not x77) fun x78 =>
          ite' x78
          (K (.bool false))
          (op PR Pn (S.bin .add 3 (.tmp 15) (.const (.int .i64 1)) x5 (.int .i64 1)) fun x16 =>
            xk x4 x16)))
      (K (.bool true))))
theorem enter.leatref10_AlikeFields {Pn : PK} {K : Value → WP} {a0 a1 : Value} {w : World} (h : W.leatref10_AlikeFields Pn K a0 a1 w) : op PR Pn (S.fn F.leatref10_AlikeFields [a0, a1]) K w :=
  op_call (first := []) (cap := []) (args := [a0, a1]) Go.Proofs.Try.func13 (by kernel_rfl) rfl (calls_of_denF (args := [a0, a1]) (h := (.s none .n (.s none (.s none .n (.c (.s none .n .n) .n)) (.s none (.s none .n (.bl (.lp [4, 5] (.s none (.s none .n (.c .n .n)) (.s none (.bl (.s none (.s none (.rg (.ev [0, 1, 2, 3, 4, 5, 6, 7, 8, 9, 10, 11, 12, 13, 14, 15, 16, 17, 18, 19, 20, 21, 22, 23, 24, 25, 26, 27, 28, 29, 30, 31, 32, 33, 34, 35, 36, 37, 38, 39, 40, 41, 42, 43, 44, 45, 46, 47, 48, 49] [] .fin) [[], [], [0, 1], [0, 1, 2], [0, 1, 2, 3], [], [], [5, 6], [5, 6, 7], [5, 6, 7, 8], [0, 1, 2, 3, 4, 5, 6, 7, 8, 9], [0, 1, 2, 3, 4, 5, 6, 7, 8, 9, 10], [0, 1, 2, 3, 4, 5, 6, 7, 8, 9, 10, 11], [0, 1, 2, 3, 4, 5, 6, 7, 8, 9, 10, 11], [0, 1, 2, 3, 4, 5, 6, 7, 8, 9, 10, 11, 12, 13], [0, 1, 2, 3, 4, 5, 6, 7, 8, 9, 10, 11, 12, 13, 14], [0, 1, 2, 3, 4, 5, 6, 7, 8, 9, 10, 11, 12, 13, 14, 15], [0, 1, 2, 3, 4, 5, 6, 7, 8, 9, 10, 11], [0, 1, 2, 3, 4, 5, 6, 7, 8, 9, 10, 11], [0, 1, 2, 3, 4, 5, 6, 7, 8, 9, 10, 11, 17, 18], [0, 1, 2, 3, 4, 5, 6, 7, 8, 9, 10, 11, 17, 18, 19], [0, 1, 2, 3, 4, 5, 6, 7, 8, 9, 10, 11, 17, 18, 19, 20], [0, 1, 2, 3, 4, 5, 6, 7, 8, 9, 10, 11, 12, 13, 14, 15, 16, 17, 18, 19, 20, 21], [0, 1, 2, 3, 4, 5, 6, 7, 8, 9, 10, 11, 12, 13, 14, 15, 16, 17, 18, 19, 20, 21, 22], [0, 1, 2, 3, 4, 5, 6, 7, 8, 9, 10, 11, 12, 13, 14, 15, 16, 17, 18, 19, 20, 21, 22, 23], [0, 1, 2, 3, 4, 5, 6, 7, 8, 9, 10, 11, 12, 13, 14, 15, 16, 17, 18, 19, 20, 21, 22, 23, 24], [0, 1, 2, 3, 4, 5, 6, 7, 8, 9, 10, 11, 12, 13, 14, 15, 16, 17, 18, 19, 20, 21, 22, 23, 24], [0, 1, 2, 3, 4, 5, 6, 7, 8, 9, 10, 11, 12, 13, 14, 15, 16, 17, 18, 19, 20, 21, 22, 23, 24, 25, 26], [0, 1, 2, 3, 4, 5, 6, 7, 8, 9, 10, 11, 12, 13, 14, 15, 16, 17, 18, 19, 20, 21, 22, 23, 24, 25, 26, 27], [0, 1, 2, 3, 4, 5, 6, 7, 8, 9, 10, 11, 12, 13, 14, 15, 16, 17, 18, 19, 20, 21, 22, 23, 24, 25, 26, 27, 28], [0, 1, 2, 3, 4, 5, 6, 7, 8, 9, 10, 11, 12, 13, 14, 15, 16, 17, 18, 19, 20, 21, 22, 23, 24], [0, 1, 2, 3, 4, 5, 6, 7, 8, 9, 10, 11, 12, 13, 14, 15, 16, 17, 18, 19, 20, 21, 22, 23, 24], [0, 1, 2, 3, 4, 5, 6, 7, 8, 9, 10, 11, 12, 13, 14, 15, 16, 17, 18, 19, 20, 21, 22, 23, 24, 30, 31], [0, 1, 2, 3, 4, 5, 6, 7, 8, 9, 10, 11, 12, 13, 14, 15, 16, 17, 18, 19, 20, 21, 22, 23, 24, 30, 31, 32], [0, 1, 2, 3, 4, 5, 6, 7, 8, 9, 10, 11, 12, 13, 14, 15, 16, 17, 18, 19, 20, 21, 22, 23, 24, 30, 31, 32, 33], [0, 1, 2, 3, 4, 5, 6, 7, 8, 9, 10, 11, 12, 13, 14, 15, 16, 17, 18, 19, 20, 21, 22, 23, 24, 25, 26, 27, 28, 29, 30, 31, 32, 33, 34], [0, 1, 2, 3, 4, 5, 6, 7, 8, 9, 10, 11, 12, 13, 14, 15, 16, 17, 18, 19, 20, 21, 22, 23, 24, 25, 26, 27, 28, 29, 30, 31, 32, 33, 34, 35], [0, 1, 2, 3, 4, 5, 6, 7, 8, 9, 10, 11, 12, 13, 14, 15, 16, 17, 18, 19, 20, 21, 22, 23, 24, 25, 26, 27, 28, 29, 30, 31, 32, 33, 34, 35, 36], [0, 1, 2, 3, 4, 5, 6, 7, 8, 9, 10, 11, 12, 13, 14, 15, 16, 17, 18, 19, 20, 21, 22, 23, 24, 25, 26, 27, 28, 29, 30, 31, 32, 33, 34, 35, 36, 37], [0, 1, 2, 3, 4, 5, 6, 7, 8, 9, 10, 11, 12, 13, 14, 15, 16, 17, 18, 19, 20, 21, 22, 23, 24, 25, 26, 27, 28, 29, 30, 31, 32, 33, 34, 35, 36, 37], [0, 1, 2, 3, 4, 5, 6, 7, 8, 9, 10, 11, 12, 13, 14, 15, 16, 17, 18, 19, 20, 21, 22, 23, 24, 25, 26, 27, 28, 29, 30, 31, 32, 33, 34, 35, 36, 37, 38, 39], [0, 1, 2, 3, 4, 5, 6, 7, 8, 9, 10, 11, 12, 13, 14, 15, 16, 17, 18, 19, 20, 21, 22, 23, 24, 25, 26, 27, 28, 29, 30, 31, 32, 33, 34, 35, 36, 37, 38, 39, 40], [0, 1, 2, 3, 4, 5, 6, 7, 8, 9, 10, 11, 12, 13, 14, 15, 16, 17, 18, 19, 20, 21, 22, 23, 24, 25, 26, 27, 28, 29, 30, 31, 32, 33, 34, 35, 36, 37, 38, 39, 40, 41], [0, 1, 2, 3, 4, 5, 6, 7, 8, 9, 10, 11, 12, 13, 14, 15, 16, 17, 18, 19, 20, 21, 22, 23, 24, 25, 26, 27, 28, 29, 30, 31, 32, 33, 34, 35, 36, 37], [0, 1, 2, 3, 4, 5, 6, 7, 8, 9, 10, 11, 12, 13, 14, 15, 16, 17, 18, 19, 20, 21, 22, 23, 24, 25, 26, 27, 28, 29, 30, 31, 32, 33, 34, 35, 36, 37], [0, 1, 2, 3, 4, 5, 6, 7, 8, 9, 10, 11, 12, 13, 14, 15, 16, 17, 18, 19, 20, 21, 22, 23, 24, 25, 26, 27, 28, 29, 30, 31, 32, 33, 34, 35, 36, 37, 43, 44], [0, 1, 2, 3, 4, 5, 6, 7, 8, 9, 10, 11, 12, 13, 14, 15, 16, 17, 18, 19, 20, 21, 22, 23, 24, 25, 26, 27, 28, 29, 30, 31, 32, 33, 34, 35, 36, 37, 43, 44, 45], [0, 1, 2, 3, 4, 5, 6, 7, 8, 9, 10, 11, 12, 13, 14, 15, 16, 17, 18, 19, 20, 21, 22, 23, 24, 25, 26, 27, 28, 29, 30, 31, 32, 33, 34, 35, 36, 37, 43, 44, 45, 46], [0, 1, 2, 3, 4, 5, 6, 7, 8, 9, 10, 11, 12, 13, 14, 15, 16, 17, 18, 19, 20, 21, 22, 23, 24, 25, 26, 27, 28, 29, 30, 31, 32, 33, 34, 35, 36, 37, 38, 39, 40, 41, 42, 43, 44, 45, 46, 47], [0, 1, 2, 3, 4, 5, 6, 7, 8, 9, 10, 11, 12, 13, 14, 15, 16, 17, 18, 19, 20, 21, 22, 23, 24, 25, 26, 27, 28, 29, 30, 31, 32, 33, 34, 35, 36, 37, 38, 39, 40, 41, 42, 43, 44, 45, 46, 47, 48]]) (.c (.s none .n .n) .n)) (.s none (.rg (.ev [0, 1, 2, 3, 4, 5, 6, 7, 8, 9] [] (.hv 10 (.ev [11] [] .fin))) [[], [], [0, 1], [0, 1, 2], [0, 1, 2, 3], [], [], [5, 6], [5, 6, 7], [5, 6, 7, 8], [0, 1, 2, 3, 4, 5, 6, 7, 8, 9], [0, 1, 2, 3, 4, 5, 6, 7, 8, 9, 10]]) (.c (.s none .n .n) .n)))) .n))))) (.s none .n .n))))) mixed Go.Proofs.Try.func13 rfl (by kernel_rfl) (Eq.mp (by kernel_rfl) h))
/-- leat/leatref01.Intact: function 14. -/
def W.leatref01_Intact (Pn : PK) (K : Value → WP) (a0 a1 : Value) : WP :=
  op PR Pn (S.fn F.leatref01_Wide [a1]) fun x7 =>
  op PR Pn (S.fn F.leatref01_Same [a0, x7]) fun x8 =>
  K x8
theorem enter.leatref01_Intact {Pn : PK} {K : Value → WP} {a0 a1 : Value} {w : World} (h : W.leatref01_Intact Pn K a0 a1 w) : op PR Pn (S.fn F.leatref01_Intact [a0, a1]) K w :=
  op_call (first := []) (cap := []) (args := [a0, a1]) Go.Proofs.Try.func14 (by kernel_rfl) rfl (calls_of_denF (args := [a0, a1]) (h := (.s none .n (.s none .n .n))) mixed Go.Proofs.Try.func14 rfl (by kernel_rfl) (Eq.mp (by kernel_rfl) h))
/-- leat/leatref07.SpoilLists: function 15. -/
def W.leatref07_SpoilLists (Pn : PK) (K : Value → WP) (a0 a1 : Value) : WP :=
  op PR Pn (S.bi .len #[39] 3 [false] [a0]) fun x11 =>
  op PR Pn (S.bi .len #[39] 3 [false] [a1]) fun x13 =>
  op PR Pn (S.bin .neq 3 (.tmp 11) (.tmp 13) x11 x13) fun x14 =>
  ite' x14
  (K (.bool false))
  (L1 (.int .i64 0) (fun x5 xk =>
      op PR Pn (S.bi .len #[39] 3 [false] [a0]) fun x17 =>
      op PR Pn (S.bin .lss 3 (.tmp 15) (.tmp 17) x5 x17) fun x18 =>
      ite' x18
      (op PR Pn (S.ia 39 a0 x5) fun x23 =>
        op PR Pn (S.load 23 x23) fun x24 =>
        op PR Pn (S.fn F.leatref01_Spoil [x24]) fun x25 =>
        op PR Pn (S.bin .add 3 (.tmp 19) (.const (.int .i64 1)) x5 (.int .i64 1)) fun x20 =>
        xk x20)
      (L1 (.int .i64 0) (fun x6 xk_1 =>
          op PR Pn (S.bi .len #[39] 3 [false] [a0]) fun x28 =>
          op PR Pn (S.bin .lss 3 (.tmp 26) (.tmp 28) x6 x28) fun x29 =>
          ite' x29
          (op PR Pn (S.ia 39 a0 x6) fun x34 =>
            op PR Pn (S.load 23 x34) fun x35 =>
            L2 x35 (.int .i64 0) (fun x7 x8 xk_2 =>
              op PR Pn (S.bin .lss 3 (.tmp 36) (.const (.int .i64 70)) x8 (.int .i64 70)) fun x37 =>
              ite' x37
              (op PR Pn (S.bin .add 3 (.tmp 41) (.tmp 42) x8 x6) fun x43 =>
                op PR Pn (S.conv 3 5 x43) fun x44 =>
                op PR Pn (S.bslice 23 1 [(0, x44)]) fun x45 =>
                op PR Pn (S.bi .append #[23, 23] 23 [false, false] [x7, x45]) fun x46 =>
                op PR Pn (S.bin .add 3 (.tmp 38) (.const (.int .i64 1)) x8 (.int .i64 1)) fun x39 =>
                xk_2 x46 x39)
              (op PR Pn (S.bin .add 3 (.tmp 30) (.const (.int .i64 1)) x6 (.int .i64 1)) fun x31 =>
                xk_1 x31)))
          (L2 (.bool false) (.int .i64 0) (fun x4 x9 xk_3 =>
              op PR Pn (S.bi .len #[39] 3 [false] [a0]) fun x49 =>
              op PR Pn (S.bin .lss 3 (.tmp 47) (.tmp 49) x9 x49) fun x50 =>
              ite' x50
              (drawn <|
                lt PR (S.mv a0) fun x53 =>
                lt PR (S.mv x9) fun x54 =>
                lt PR (S.ia 39 x53 x54) fun x55 =>
                lt PR (S.load 23 x55) fun x56 =>
                lt PR (S.mv a1) fun x57 =>
                lt PR (S.mv x9) fun x58 =>
                lt PR (S.ia 39 x57 x58) fun x59 =>
                lt PR (S.load 23 x59) fun x60 =>
                op PR Pn (S.fn F.leatref01_Turned [x56, x60]) fun x61 =>
                lt PR (S.un .not x61) fun x62 =>
                ite' x62
                (K (.bool false))
                (op PR Pn (S.bin .add 3 (.tmp 51) (.const (.int .i64 1)) x9 (.int .i64 1)) fun x52 =>
                  xk_3 x4 x52))
              (K (.bool true))))))))
theorem enter.leatref07_SpoilLists {Pn : PK} {K : Value → WP} {a0 a1 : Value} {w : World} (h : W.leatref07_SpoilLists Pn K a0 a1 w) : op PR Pn (S.fn F.leatref07_SpoilLists [a0, a1]) K w :=
  op_call (first := []) (cap := []) (args := [a0, a1]) Go.Proofs.Try.func15 (by kernel_rfl) rfl (calls_of_denF (args := [a0, a1]) (h := (.s none .n (.s none (.s none .n (.c (.s none .n .n) .n)) (.s none (.s none .n (.bl (.lp [5] (.s none (.s none .n (.c .n .n)) (.s none (.bl .n) .n))))) (.s none (.s none .n (.bl (.lp [6] (.s none (.s none .n (.c .n .n)) (.s none (.bl (.s none .n (.s none .n (.bl (.lp [7, 8] (.s none (.s none .n (.c .n .n)) (.s none (.bl .n) .n))))))) .n))))) (.s none (.s none .n (.bl (.lp [4, 9] (.s none (.s none .n (.c .n .n)) (.s none (.bl (.s none (.rg (.ev [0, 1, 2, 3, 4, 5, 6, 7] [] (.hv 8 (.ev [9] [] .fin))) [[], [], [0, 1], [0, 1, 2], [], [], [4, 5], [4, 5, 6], [0, 1, 2, 3, 4, 5, 6, 7], [0, 1, 2, 3, 4, 5, 6, 7, 8]]) (.c (.s none .n .n) .n))) .n))))) (.s none .n .n))))))) mixed Go.Proofs.Try.func15 rfl (by kernel_rfl) (Eq.mp (by kernel_rfl) h))
/-- leat/leatref10.Lists: function 16. -/
def W.leatref10_Lists (Pn : PK) (K : Value → WP) (a0 : Value) : WP :=
  op PR Pn (S.box 29 a0) fun x1 =>
  op PR Pn (S.bslice 39 0 []) fun x7 =>
  op PR Pn (S.fa 29 x1 3) fun x9 =>
  op PR Pn (S.load 23 x9) fun x10 =>
  op PR Pn (S.bslice 39 1 [(0, x10)]) fun x11 =>
  op PR Pn (S.bi .append #[39, 39] 39 [false, false] [x7, x11]) fun x12 =>
  L2 x12 (.int .i64 0) (fun x3 x4 xk =>
    op PR Pn (S.fa 29 x1 4) fun x14 =>
    op PR Pn (S.load 27 x14) fun x15 =>
    op PR Pn (S.bi .len #[27] 3 [false] [x15]) fun x16 =>
    op PR Pn (S.bin .lss 3 (.tmp 13) (.tmp 16) x4 x16) fun x17 =>
    ite' x17
    (op PR Pn (S.fa 29 x1 4) fun x20 =>
      op PR Pn (S.load 27 x20) fun x21 =>
      op PR Pn (S.ia 27 x21 x4) fun x23 =>
      op PR Pn (S.load 29 x23) fun x24 =>
      op PR Pn (S.fn F.leatref10_Lists [x24]) fun x25 =>
      L2 x3 (.int .i64 0) (fun x3_1 x6 xk_1 =>
        op PR Pn (S.bi .len #[39] 3 [false] [x25]) fun x28 =>
        op PR Pn (S.bin .lss 3 (.tmp 26) (.tmp 28) x6 x28) fun x29 =>
        ite' x29
        (op PR Pn (S.ia 39 x25 x6) fun x35 =>
          op PR Pn (S.load 23 x35) fun x36 =>
          op PR Pn (S.bslice 39 1 [(0, x36)]) fun x37 =>
          op PR Pn (S.bi .append #[39, 39] 39 [false, false] [x3_1, x37]) fun x38 =>
          op PR Pn (S.bin .add 3 (.tmp 30) (.const (.int .i64 1)) x6 (.int .i64 1)) fun x31 =>
          xk_1 x38 x31)
        (op PR Pn (S.bin .add 3 (.tmp 18) (.const (.int .i64 1)) x4 (.int .i64 1)) fun x19 =>
          xk x3_1 x19)))
    (K x3))
theorem enter.leatref10_Lists {Pn : PK} {K : Value → WP} {a0 : Value} {w : World} (h : W.leatref10_Lists Pn K a0 w) : op PR Pn (S.fn F.leatref10_Lists [a0]) K w :=
  op_call (first := []) (cap := []) (args := [a0]) Go.Proofs.Try.func16 (by kernel_rfl) rfl (calls_of_denF (args := [a0]) (h := (.s none .n (.s none .n (.s none .n (.s none (.s none .n (.bl (.lp [3, 4] (.s none (.s none .n (.c .n .n)) (.s none (.bl (.s none .n (.s none .n (.bl (.lp [3, 6] (.s none (.s none .n (.c .n .n)) (.s none (.bl .n) .n))))))) .n))))) (.s none .n .n)))))) mixed Go.Proofs.Try.func16 rfl (by kernel_rfl) (Eq.mp (by kernel_rfl) h))
/-- leat/schema.Encode: function 17. -/
def W.schema_Encode (Pn : PK) (K : Value → WP) (a0 a1 a2 : Value) : WP :=
  op PR Pn (S.box 29 a2) fun x5 =>
  op PR Pn (S.fn F.schema_root [a0, a1]) fun x16 =>
  op PR Pn (S.ext x16 0) fun x17 =>
  op PR Pn (S.ext x16 1) fun x18 =>
  op PR Pn (S.alloc 66) fun x8 =>
  op PR Pn (S.store 66 x8 x17) fun _ =>
  op PR Pn (S.bin .neq 32 (.tmp 19) (.const (.int .i64 0)) x18 (.int .i64 0)) fun x20 =>
  ite' x20
  (K (.tuple #[(.slice none 0 0), x18]))
  (op PR Pn (S.load 66 x8) fun x22 =>
    op PR Pn (S.load 29 x5) fun x23 =>
    op PR Pn (S.fn F.schema_record_check [x22, x23]) fun x24 =>
    op PR Pn (S.bin .neq 32 (.tmp 25) (.const (.int .i64 0)) x24 (.int .i64 0)) fun x26 =>
    ite' x26
    (K (.tuple #[(.slice none 0 0), x24]))
    (op PR Pn (S.fn F.cursor_NewWriter [(.int .i64 130048)]) fun x28 =>
      op PR Pn (S.load 66 x8) fun x29 =>
      op PR Pn (S.load 29 x5) fun x31 =>
      op PR Pn (S.fn F.schema_record_put [x29, x28, x31]) fun x32 =>
      op PR Pn (S.bin .neq 32 (.tmp 33) (.const (.int .i64 0)) x32 (.int .i64 0)) fun x34 =>
      ite' x34
      (K (.tuple #[(.slice none 0 0), (.int .i64 4)]))
      (op PR Pn (S.fn F.cursor_Writer_Bytes [x28]) fun x36 =>
        K (.tuple #[x36, (.int .i64 0)]))))
theorem enter.schema_Encode {Pn : PK} {K : Value → WP} {a0 a1 a2 : Value} {w : World} (h : W.schema_Encode Pn K a0 a1 a2 w) : op PR Pn (S.fn F.schema_Encode [a0, a1, a2]) K w :=
  op_call (first := []) (cap := []) (args := [a0, a1, a2]) Go.Proofs.Try.func17 (by kernel_rfl) rfl (calls_of_denF (args := [a0, a1, a2]) (h := (.s none .n (.s none .n (.s none (.s none .n (.c (.s none .n .n) .n)) (.s none (.s none .n (.s none .n (.c (.s none .n .n) .n))) (.s none .n (.s none (.s none .n (.s none .n (.c (.s none .n .n) .n))) (.s none .n .n)))))))) mixed Go.Proofs.Try.func17 rfl (by kernel_rfl) (Eq.mp (by kernel_rfl) h))
/-- leat/leatref10.Twin: function 18. -/
def W.leatref10_Twin (Pn : PK) (K : Value → WP) (a0 : Value) : WP :=
  op PR Pn (S.box 29 a0) fun x1 =>
  op PR Pn (S.alloc 29) fun x2 =>
  op PR Pn (S.bslice 27 0 []) fun x5 =>
  L2 x5 (.int .i64 0) (fun x3 x4 xk =>
    op PR Pn (S.fa 29 x1 4) fun x7 =>
    op PR Pn (S.load 27 x7) fun x8 =>
    op PR Pn (S.bi .len #[27] 3 [false] [x8]) fun x9 =>
    op PR Pn (S.bin .lss 3 (.tmp 6) (.tmp 9) x4 x9) fun x10 =>
    ite' x10
    (op PR Pn (S.fa 29 x1 4) fun x14 =>
      op PR Pn (S.load 27 x14) fun x15 =>
      op PR Pn (S.ia 27 x15 x4) fun x17 =>
      op PR Pn (S.load 29 x17) fun x18 =>
      op PR Pn (S.fn F.leatref10_Twin [x18]) fun x19 =>
      op PR Pn (S.bslice 27 1 [(0, x19)]) fun x20 =>
      op PR Pn (S.bi .append #[27, 27] 27 [false, false] [x3, x20]) fun x21 =>
      op PR Pn (S.bin .add 3 (.tmp 11) (.const (.int .i64 1)) x4 (.int .i64 1)) fun x12 =>
      xk x21 x12)
    (drawn <|
      lt PR (S.fa 29 x1 0) fun x22 =>
      lt PR (S.load 3 x22) fun x23 =>
      lt PR (S.fa 29 x1 1) fun x24 =>
      lt PR (S.load 2 x24) fun x25 =>
      lt PR (S.fa 29 x1 2) fun x26 =>
      lt PR (S.load 4 x26) fun x27 =>
      lt PR (S.fa 29 x1 3) fun x28 =>
      lt PR (S.load 23 x28) fun x29 =>
      lt PR (S.mv x3) fun x31 =>
      op PR Pn (S.fn F.leatref01_Copy [x29]) fun x30 =>
      lt PR (S.build 29 [(0, x23), (1, x25), (2, x27), (3, x30), (4, x31)]) fun x32 =>
      rc PR (S.fa 29 x1 0) x22 <|
      rc PR (S.load 3 x22) x23 <|
      rc PR (S.fa 29 x1 1) x24 <|
      rc PR (S.load 2 x24) x25 <|
      rc PR (S.fa 29 x1 2) x26 <|
      rc PR (S.load 4 x26) x27 <|
      rc PR (S.mv x3) x31 <|
      op PR Pn (S.store 29 x2 x32) fun _ =>
      ldR PR 29 x2 fun xr => K xr))
theorem enter.leatref10_Twin {Pn : PK} {K : Value → WP} {a0 : Value} {w : World} (h : W.leatref10_Twin Pn K a0 w) : op PR Pn (S.fn F.leatref10_Twin [a0]) K w :=
  op_call (first := []) (cap := []) (args := [a0]) Go.Proofs.Try.func18 (by kernel_rfl) rfl (calls_of_denF (args := [a0]) (h := (.s none .n (.s none .n (.s none (.s none .n (.bl (.lp [3, 4] (.s none (.s none .n (.c .n .n)) (.s none (.bl .n) .n))))) (.s none (.rg (.ev [0, 1, 2, 3, 4, 5, 6, 7, 9] [] (.hv 8 (.ev [10] [0, 1, 2, 3, 4, 5, 9] (.hv 11 .fin)))) [[], [0], [], [2], [], [4], [], [6], [6, 7], [], [0, 1, 2, 3, 4, 5, 6, 7, 8, 9], [0, 1, 2, 3, 4, 5, 6, 7, 8, 9, 10]]) .n))))) mixed Go.Proofs.Try.func18 rfl (by kernel_rfl) (Eq.mp (by kernel_rfl) h))
/-- leat/leatref10.Encode: function 19. -/
def W.leatref10_Encode (Pn : PK) (K : Value → WP) (a0 a1 a2 : Value) : WP :=
  op PR Pn (S.box 29 a2) fun x5 =>
  op PR Pn (S.fn F.leatref10_begin [a0, a1]) fun x13 =>
  op PR Pn (S.bin .neq 3 (.tmp 14) (.const (.int .i64 0)) x13 (.int .i64 0)) fun x15 =>
  ite' x15
  (K (.tuple #[(.slice none 0 0), x13]))
  (op PR Pn (S.build 60 [(1, (.int .i64 10))]) fun x17 =>
    op PR Pn (S.load 29 x5) fun x18 =>
    op PR Pn (S.fn F.leatref10_shape [x17, x18]) fun x19 =>
    op PR Pn (S.un .not x19) fun x20 =>
    ite' x20
    (K (.tuple #[(.slice none 0 0), (.int .i64 101)]))
    (op PR Pn (S.load 29 x5) fun x24 =>
      op PR Pn (S.fn F.leatref10_parts [a0, a1, x24]) fun x25 =>
      op PR Pn (S.ext x25 0) fun x26 =>
      op PR Pn (S.ext x25 1) fun x27 =>
      op PR Pn (S.bin .neq 3 (.tmp 28) (.const (.int .i64 0)) x27 (.int .i64 0)) fun x29 =>
      ite' x29
      (K (.tuple #[(.slice none 0 0), x27]))
      (op PR Pn (S.bi .len #[23] 3 [false] [x26]) fun x32 =>
        op PR Pn (S.bin .gtr 3 (.tmp 32) (.const (.int .i64 130048)) x32 (.int .i64 130048)) fun x33 =>
        ite' x33
        (K (.tuple #[(.slice none 0 0), (.int .i64 4)]))
        (K (.tuple #[x26, (.int .i64 0)])))))
theorem enter.leatref10_Encode {Pn : PK} {K : Value → WP} {a0 a1 a2 : Value} {w : World} (h : W.leatref10_Encode Pn K a0 a1 a2 w) : op PR Pn (S.fn F.leatref10_Encode [a0, a1, a2]) K w :=
  op_call (first := []) (cap := []) (args := [a0, a1, a2]) Go.Proofs.Try.func19 (by kernel_rfl) rfl (calls_of_denF (args := [a0, a1, a2]) (h := (.s none .n (.s none .n (.s none (.s none .n (.c (.s none .n .n) .n)) (.s none (.s none .n (.c (.s none .n .n) .n)) (.s none .n (.s none (.s none .n (.c (.s none .n .n) .n)) (.s none (.s none .n (.c (.s none .n .n) .n)) (.s none .n .n))))))))) mixed Go.Proofs.Try.func19 rfl (by kernel_rfl) (Eq.mp (by kernel_rfl) h))
/-- leat/leatref01.Cat: function 20. -/
def W.leatref01_Cat (Pn : PK) (K : Value → WP) (a0 a1 : Value) : WP :=
  op PR Pn (S.fn F.leatref01_Copy [a0]) fun x8 =>
  L2 x8 (.int .i64 0) (fun x5 x6 xk =>
    op PR Pn (S.bi .len #[23] 3 [false] [a1]) fun x11 =>
    op PR Pn (S.bin .lss 3 (.tmp 9) (.tmp 11) x6 x11) fun x12 =>
    ite' x12
    (op PR Pn (S.ia 23 a1 x6) fun x18 =>
      op PR Pn (S.load 5 x18) fun x19 =>
      op PR Pn (S.bslice 23 1 [(0, x19)]) fun x20 =>
      op PR Pn (S.bi .append #[23, 23] 23 [false, false] [x5, x20]) fun x21 =>
      op PR Pn (S.bin .add 3 (.tmp 13) (.const (.int .i64 1)) x6 (.int .i64 1)) fun x14 =>
      xk x21 x14)
    (K x5))
theorem enter.leatref01_Cat {Pn : PK} {K : Value → WP} {a0 a1 : Value} {w : World} (h : W.leatref01_Cat Pn K a0 a1 w) : op PR Pn (S.fn F.leatref01_Cat [a0, a1]) K w :=
  op_call (first := []) (cap := []) (args := [a0, a1]) Go.Proofs.Try.func20 (by kernel_rfl) rfl (calls_of_denF (args := [a0, a1]) (h := (.s none .n (.s none .n (.s none (.s none .n (.bl (.lp [5, 6] (.s none (.s none .n (.c .n .n)) (.s none (.bl .n) .n))))) (.s none .n .n))))) mixed Go.Proofs.Try.func20 rfl (by kernel_rfl) (Eq.mp (by kernel_rfl) h))
/-- leat/leatref01.Piece: function 21. -/
def W.leatref01_Piece (Pn : PK) (K : Value → WP) (a0 a1 a2 : Value) : WP :=
  op PR Pn (S.bslice 23 0 []) fun x9 =>
  J1 (fun x1 =>
    L2 x9 x1 (fun x7 x8 xk =>
      op PR Pn (S.bi .len #[23] 3 [false] [a0]) fun x15 =>
      op PR Pn (S.bin .lss 3 (.tmp 13) (.tmp 15) x8 x15) fun x16 =>
      gop PR Pn x16 true (S.mv x8) fun x18 =>
      gop PR Pn x16 true (S.mv a2) fun x19 =>
      gop PR Pn x16 true (S.bin .lss 3 (.tmp 18) (.tmp 19) x18 x19) fun x20 =>
      op PR Pn (S.pick x16 x20 (.bool false)) fun x21 =>
      ite' x21
      (op PR Pn (S.ia 23 a0 x8) fun x27 =>
        op PR Pn (S.load 5 x27) fun x28 =>
        op PR Pn (S.bslice 23 1 [(0, x28)]) fun x29 =>
        op PR Pn (S.bi .append #[23, 23] 23 [false, false] [x7, x29]) fun x30 =>
        op PR Pn (S.bin .add 3 (.tmp 22) (.const (.int .i64 1)) x8 (.int .i64 1)) fun x23 =>
        xk x30 x23)
      (K x7)))
  (fun xk_1 =>
    op PR Pn (S.bin .lss 3 (.tmp 10) (.const (.int .i64 0)) a1 (.int .i64 0)) fun x11 =>
    ite' x11
    (xk_1 (.int .i64 0))
    (xk_1 a1))
theorem enter.leatref01_Piece {Pn : PK} {K : Value → WP} {a0 a1 a2 : Value} {w : World} (h : W.leatref01_Piece Pn K a0 a1 a2 w) : op PR Pn (S.fn F.leatref01_Piece [a0, a1, a2]) K w :=
  op_call (first := []) (cap := []) (args := [a0, a1, a2]) Go.Proofs.Try.func21 (by kernel_rfl) rfl (calls_of_denF (args := [a0, a1, a2]) (h := (.s none .n (.s none .n (.s (some [1]) (.s none .n (.c .n .n)) (.s none (.s none .n (.bl (.lp [7, 8] (.s none (.s none .n (.c .n .n)) (.s none (.bl .n) .n))))) (.s none .n .n)))))) mixed Go.Proofs.Try.func21 rfl (by kernel_rfl) (Eq.mp (by kernel_rfl) h))
/-- leat/leatref01.Copy: function 22. -/
def W.leatref01_Copy (Pn : PK) (K : Value → WP) (a0 : Value) : WP :=
  op PR Pn (S.bslice 23 0 []) fun x5 =>
  L2 x5 (.int .i64 0) (fun x3 x4 xk =>
    op PR Pn (S.bi .len #[23] 3 [false] [a0]) fun x8 =>
    op PR Pn (S.bin .lss 3 (.tmp 6) (.tmp 8) x4 x8) fun x9 =>
    ite' x9
    (op PR Pn (S.ia 23 a0 x4) fun x15 =>
      op PR Pn (S.load 5 x15) fun x16 =>
      op PR Pn (S.bslice 23 1 [(0, x16)]) fun x17 =>
      op PR Pn (S.bi .append #[23, 23] 23 [false, false] [x3, x17]) fun x18 =>
      op PR Pn (S.bin .add 3 (.tmp 10) (.const (.int .i64 1)) x4 (.int .i64 1)) fun x11 =>
      xk x18 x11)
    (K x3))
theorem enter.leatref01_Copy {Pn : PK} {K : Value → WP} {a0 : Value} {w : World} (h : W.leatref01_Copy Pn K a0 w) : op PR Pn (S.fn F.leatref01_Copy [a0]) K w :=
  op_call (first := []) (cap := []) (args := [a0]) Go.Proofs.Try.func22 (by kernel_rfl) rfl (calls_of_denF (args := [a0]) (h := (.s none .n (.s none .n (.s none (.s none .n (.bl (.lp [3, 4] (.s none (.s none .n (.c .n .n)) (.s none (.bl .n) .n))))) (.s none .n .n))))) mixed Go.Proofs.Try.func22 rfl (by kernel_rfl) (Eq.mp (by kernel_rfl) h))
/-- leat/leatref01.Same: function 23. -/
def W.leatref01_Same (Pn : PK) (K : Value → WP) (a0 a1 : Value) : WP :=
  op PR Pn (S.bi .len #[23] 3 [false] [a0]) fun x7 =>
  op PR Pn (S.bi .len #[23] 3 [false] [a1]) fun x9 =>
  op PR Pn (S.bin .neq 3 (.tmp 7) (.tmp 9) x7 x9) fun x10 =>
  ite' x10
  (K (.bool false))
  (L2 (.bool false) (.int .i64 0) (fun x4 x5 xk =>
      op PR Pn (S.bi .len #[23] 3 [false] [a0]) fun x13 =>
      op PR Pn (S.bin .lss 3 (.tmp 11) (.tmp 13) x5 x13) fun x14 =>
      ite' x14
      (drawn <|
        lt PR (S.mv a0) fun x17 =>
        lt PR (S.mv x5) fun x18 =>
        lt PR (S.ia 23 x17 x18) fun x19 =>
        lt PR (S.load 5 x19) fun x20 =>
        lt PR (S.mv a1) fun x21 =>
        lt PR (S.mv x5) fun x22 =>
        lt PR (S.ia 23 x21 x22) fun x23 =>
        lt PR (S.load 5 x23) fun x24 =>
        lt PR (S.bin .neq 5 (.tmp 20) (.tmp 24) x20 x24) fun x25 =>
        ite' x25
        (K (.bool false))
        (op PR Pn (S.bin .add 3 (.tmp 15) (.const (.int .i64 1)) x5 (.int .i64 1)) fun x16 =>
          xk x4 x16))
      (K (.bool true))))
theorem enter.leatref01_Same {Pn : PK} {K : Value → WP} {a0 a1 : Value} {w : World} (h : W.leatref01_Same Pn K a0 a1 w) : op PR Pn (S.fn F.leatref01_Same [a0, a1]) K w :=
  op_call (first := []) (cap := []) (args := [a0, a1]) Go.Proofs.Try.func23 (by kernel_rfl) rfl (calls_of_denF (args := [a0, a1]) (h := (.s none .n (.s none (.s none .n (.c (.s none .n .n) .n)) (.s none (.s none .n (.bl (.lp [4, 5] (.s none (.s none .n (.c .n .n)) (.s none (.bl (.s none (.rg (.ev [0, 1, 2, 3, 4, 5, 6, 7, 8] [] .fin) [[], [], [0, 1], [0, 1, 2], [], [], [4, 5], [4, 5, 6], [0, 1, 2, 3, 4, 5, 6, 7]]) (.c (.s none .n .n) .n))) .n))))) (.s none .n .n))))) mixed Go.Proofs.Try.func23 rfl (by kernel_rfl) (Eq.mp (by kernel_rfl) h))
/-- leat/schema.Table: function 24. -/
def W.schema_Table (Pn : PK) (K : Value → WP) (a0 a1 : Value) : WP :=
  op PR Pn (S.mkMap 81 none) fun x9 =>
  op PR Pn (S.mu 81 x9 (.int .i16 0) (.func (.func F.schema_produce) #[] #[])) fun _ =>
  op PR Pn (S.mu 81 x9 (.int .i16 1) (.func (.func F.schema_fetch) #[] #[])) fun _ =>
  op PR Pn (S.mu 81 x9 (.int .i16 2) (.func (.func F.schema_list) #[] #[])) fun _ =>
  op PR Pn (S.lk 81 x9 a0 true) fun x14 =>
  op PR Pn (S.ext x14 0) fun x15 =>
  op PR Pn (S.ext x14 1) fun x16 =>
  op PR Pn (S.un .not x16) fun x18 =>
  ite' x18
  (K (.tuple #[(.slice none 0 0), (.int .i64 160)]))
  (op PR Pn (S.callV x15 [a1]) fun x21 =>
    K (.tuple #[x21, (.int .i64 0)]))
theorem enter.schema_Table {Pn : PK} {K : Value → WP} {a0 a1 : Value} {w : World} (h : W.schema_Table Pn K a0 a1 w) : op PR Pn (S.fn F.schema_Table [a0, a1]) K w :=
  op_call (first := []) (cap := []) (args := [a0, a1]) Go.Proofs.Try.func24 (by kernel_rfl) rfl (calls_of_denF (args := [a0, a1]) (h := (.s none .n (.s none .n (.s none .n (.s none (.s none .n (.c (.s none .n .n) .n)) (.s none .n .n)))))) mixed Go.Proofs.Try.func24 rfl (by kernel_rfl) (Eq.mp (by kernel_rfl) h))
/-- leat/leatref10.Table: function 25. -/
def W.leatref10_Table (Pn : PK) (K : Value → WP) (a0 a1 : Value) : WP :=
  op PR Pn (S.fn F.leatref10_one [(.string { data := #[105, 110, 100, 101, 120] }), (.int .i64 3), (.int .i64 0), (.int .i64 3)]) fun x18 =>
  op PR Pn (S.alloc 60) fun x6 =>
  op PR Pn (S.store 60 x6 x18) fun _ =>
  op PR Pn (S.fn F.leatref10_one [(.string { data := #[99, 111, 100, 101] }), (.int .i64 2), (.int .i64 0), (.int .i64 3)]) fun x19 =>
  op PR Pn (S.alloc 60) fun x7 =>
  op PR Pn (S.store 60 x7 x19) fun _ =>
  op PR Pn (S.fn F.leatref10_one [(.string { data := #[101, 112, 111, 99, 104] }), (.int .i64 3), (.int .i64 3), (.int .i64 3)]) fun x20 =>
  op PR Pn (S.alloc 60) fun x8 =>
  op PR Pn (S.store 60 x8 x20) fun _ =>
  op PR Pn (S.fn F.leatref10_one [(.string { data := #[114, 101, 99, 115] }), (.int .i64 8), (.int .i64 0), (.int .i64 3)]) fun x21 =>
  op PR Pn (S.alloc 60) fun x9 =>
  op PR Pn (S.store 60 x9 x21) fun _ =>
  op PR Pn (S.fn F.leatref10_one [(.string { data := #[115, 116, 97, 114, 116] }), (.int .i64 4), (.int .i64 3), (.int .i64 3)]) fun x22 =>
  op PR Pn (S.alloc 60) fun x10 =>
  op PR Pn (S.store 60 x10 x22) fun _ =>
  op PR Pn (S.bin .eql 50 (.tmp 24) (.const (.int .i16 0)) a0 (.int .i16 0)) fun x25 =>
  gop PR Pn x25 true (S.mv a1) fun x27 =>
  gop PR Pn x25 true (S.un .not x27) fun x28 =>
  op PR Pn (S.pick x25 x28 (.bool false)) fun x29 =>
  ite' x29
  (op PR Pn (S.load 60 x6) fun x30 =>
    op PR Pn (S.load 60 x9) fun x31 =>
    op PR Pn (S.bslice 22 2 [(0, x30), (1, x31)]) fun x32 =>
    op PR Pn (S.fn F.leatref10_topics [x32]) fun x33 =>
    op PR Pn (S.alloc 60) fun x11 =>
    op PR Pn (S.store 60 x11 x33) fun _ =>
    drawn <|
    lt PR (S.load 60 x11) fun x37 =>
    op PR Pn (S.fn F.leatref10_one [(.string { data := #[116, 120, 110] }), (.int .i64 6), (.int .i64 3), (.int .i64 3)]) fun x34 =>
    rc PR (S.load 60 x11) x37 <|
    op PR Pn (S.fn F.leatref10_one [(.string { data := #[97, 99, 107, 115] }), (.int .i64 2), (.int .i64 0), (.int .i64 3)]) fun x35 =>
    rc PR (S.load 60 x11) x37 <|
    op PR Pn (S.fn F.leatref10_one [(.string { data := #[119, 97, 105, 116] }), (.int .i64 3), (.int .i64 0), (.int .i64 3)]) fun x36 =>
    rc PR (S.load 60 x11) x37 <|
    op PR Pn (S.bslice 22 4 [(0, x34), (1, x35), (2, x36), (3, x37)]) fun x38 =>
    lt PR (S.mv x38) fun x4 =>
    lt PR (S.mv (.int .i64 0)) fun x5 =>
    K (.tuple #[x4, x5]))
  (op PR Pn (S.bin .eql 50 (.tmp 40) (.const (.int .i16 0)) a0 (.int .i16 0)) fun x41 =>
    ite' x41
    (J1 (fun x12 =>
        drawn <|
        lt PR (S.load 60 x12) fun x49 =>
        op PR Pn (S.fn F.leatref10_one [(.string { data := #[116, 104, 114, 111, 116, 116, 108, 101] }), (.int .i64 3), (.int .i64 1), (.int .i64 3)]) fun x50 =>
        rc PR (S.load 60 x12) x49 <|
        op PR Pn (S.bslice 22 2 [(0, x49), (1, x50)]) fun x51 =>
        lt PR (S.mv x51) fun x4_1 =>
        lt PR (S.mv (.int .i64 0)) fun x5_1 =>
        K (.tuple #[x4_1, x5_1]))
      (fun xk =>
        drawn <|
        lt PR (S.load 60 x6) fun x42 =>
        lt PR (S.load 60 x7) fun x43 =>
        lt PR (S.load 60 x10) fun x46 =>
        also
          (op PR Pn (S.fn F.leatref10_one [(.string { data := #[98, 97, 115, 101] }), (.int .i64 4), (.int .i64 0), (.int .i64 3)]) fun x44 =>
            rc PR (S.load 60 x6) x42 <|
            rc PR (S.load 60 x7) x43 <|
            rc PR (S.load 60 x10) x46 <|
            also
              (op PR Pn (S.fn F.leatref10_one [(.string { data := #[116, 105, 109, 101] }), (.int .i64 4), (.int .i64 2), (.int .i64 3)]) fun x45 =>
                rc PR (S.load 60 x6) x42 <|
                rc PR (S.load 60 x7) x43 <|
                rc PR (S.load 60 x10) x46 <|
                also
                  (op PR Pn (S.bslice 22 5 [(0, x42), (1, x43), (2, x44), (3, x45), (4, x46)]) fun x47 =>
                    also
                      (op PR Pn (S.fn F.leatref10_topics [x47]) fun x48 =>
                        op PR Pn (S.alloc 60) fun x12_1 =>
                        op PR Pn (S.store 60 x12_1 x48) fun _ =>
                        xk x12_1)
                      (op PR Pn (S.alloc 60) fun x12_2 =>
                        op PR Pn (S.fn F.leatref10_topics [x47]) fun x48_1 =>
                        op PR Pn (S.store 60 x12_2 x48_1) fun _ =>
                        xk x12_2))
                  (op PR Pn (S.alloc 60) fun x12_3 =>
                    rc PR (S.load 60 x6) x42 <|
                    rc PR (S.load 60 x7) x43 <|
                    rc PR (S.load 60 x10) x46 <|
                    op PR Pn (S.bslice 22 5 [(0, x42), (1, x43), (2, x44), (3, x45), (4, x46)]) fun x47_1 =>
                    op PR Pn (S.fn F.leatref10_topics [x47_1]) fun x48_2 =>
                    op PR Pn (S.store 60 x12_3 x48_2) fun _ =>
                    xk x12_3))
              (op PR Pn (S.alloc 60) fun x12_4 =>
                rc PR (S.load 60 x6) x42 <|
                rc PR (S.load 60 x7) x43 <|
                rc PR (S.load 60 x10) x46 <|
                op PR Pn (S.fn F.leatref10_one [(.string { data := #[116, 105, 109, 101] }), (.int .i64 4), (.int .i64 2), (.int .i64 3)]) fun x45_1 =>
                rc PR (S.load 60 x6) x42 <|
                rc PR (S.load 60 x7) x43 <|
                rc PR (S.load 60 x10) x46 <|
                op PR Pn (S.bslice 22 5 [(0, x42), (1, x43), (2, x44), (3, x45_1), (4, x46)]) fun x47_2 =>
                op PR Pn (S.fn F.leatref10_topics [x47_2]) fun x48_3 =>
                op PR Pn (S.store 60 x12_4 x48_3) fun _ =>
                xk x12_4))
          (op PR Pn (S.alloc 60) fun x12_5 =>
            rc PR (S.load 60 x6) x42 <|
            rc PR (S.load 60 x7) x43 <|
            rc PR (S.load 60 x10) x46 <|
            op PR Pn (S.fn F.leatref10_one [(.string { data := #[98, 97, 115, 101] }), (.int .i64 4), (.int .i64 0), (.int .i64 3)]) fun x44_1 =>
            rc PR (S.load 60 x6) x42 <|
            rc PR (S.load 60 x7) x43 <|
            rc PR (S.load 60 x10) x46 <|
            op PR Pn (S.fn F.leatref10_one [(.string { data := #[116, 105, 109, 101] }), (.int .i64 4), (.int .i64 2), (.int .i64 3)]) fun x45_2 =>
            rc PR (S.load 60 x6) x42 <|
            rc PR (S.load 60 x7) x43 <|
            rc PR (S.load 60 x10) x46 <|
            op PR Pn (S.bslice 22 5 [(0, x42), (1, x43), (2, x44_1), (3, x45_2), (4, x46)]) fun x47_3 =>
            op PR Pn (S.fn F.leatref10_topics [x47_3]) fun x48_4 =>
            op PR Pn (S.store 60 x12_5 x48_4) fun _ =>
            xk x12_5)))
    (op PR Pn (S.bin .eql 50 (.tmp 53) (.const (.int .i16 1)) a0 (.int .i16 1)) fun x54 =>
      gop PR Pn x54 true (S.mv a1) fun x56 =>
      gop PR Pn x54 true (S.un .not x56) fun x57 =>
      op PR Pn (S.pick x54 x57 (.bool false)) fun x58 =>
      ite' x58
      (J1 (fun x13 =>
          drawn <|
          lt PR (S.load 60 x13) fun x70 =>
          op PR Pn (S.fn F.leatref10_one [(.string { data := #[114, 101, 112, 108, 105, 99, 97] }), (.int .i64 3), (.int .i64 0), (.int .i64 3)]) fun x65 =>
          rc PR (S.load 60 x13) x70 <|
          op PR Pn (S.fn F.leatref10_one [(.string { data := #[119, 97, 105, 116] }), (.int .i64 3), (.int .i64 0), (.int .i64 3)]) fun x66 =>
          rc PR (S.load 60 x13) x70 <|
          op PR Pn (S.fn F.leatref10_one [(.string { data := #[109, 105, 110] }), (.int .i64 3), (.int .i64 0), (.int .i64 3)]) fun x67 =>
          rc PR (S.load 60 x13) x70 <|
          op PR Pn (S.fn F.leatref10_one [(.string { data := #[109, 97, 120] }), (.int .i64 3), (.int .i64 1), (.int .i64 3)]) fun x68 =>
          rc PR (S.load 60 x13) x70 <|
          op PR Pn (S.fn F.leatref10_one [(.string { data := #[108, 101, 118, 101, 108] }), (.int .i64 1), (.int .i64 2), (.int .i64 3)]) fun x69 =>
          rc PR (S.load 60 x13) x70 <|
          op PR Pn (S.bslice 22 6 [(0, x65), (1, x66), (2, x67), (3, x68), (4, x69), (5, x70)]) fun x71 =>
          lt PR (S.mv x71) fun x4_2 =>
          lt PR (S.mv (.int .i64 0)) fun x5_2 =>
          K (.tuple #[x4_2, x5_2]))
        (fun xk_1 =>
          drawn <|
          lt PR (S.load 60 x6) fun x59 =>
          lt PR (S.load 60 x8) fun x60 =>
          also
            (op PR Pn (S.fn F.leatref10_one [(.string { data := #[111, 102, 102, 115, 101, 116] }), (.int .i64 4), (.int .i64 0), (.int .i64 3)]) fun x61 =>
              rc PR (S.load 60 x6) x59 <|
              rc PR (S.load 60 x8) x60 <|
              also
                (op PR Pn (S.fn F.leatref10_one [(.string { data := #[109, 97, 120] }), (.int .i64 3), (.int .i64 0), (.int .i64 3)]) fun x62 =>
                  rc PR (S.load 60 x6) x59 <|
                  rc PR (S.load 60 x8) x60 <|
                  also
                    (op PR Pn (S.bslice 22 4 [(0, x59), (1, x60), (2, x61), (3, x62)]) fun x63 =>
                      also
                        (op PR Pn (S.fn F.leatref10_topics [x63]) fun x64 =>
                          op PR Pn (S.alloc 60) fun x13_1 =>
                          op PR Pn (S.store 60 x13_1 x64) fun _ =>
                          xk_1 x13_1)
                        (op PR Pn (S.alloc 60) fun x13_2 =>
                          op PR Pn (S.fn F.leatref10_topics [x63]) fun x64_1 =>
                          op PR Pn (S.store 60 x13_2 x64_1) fun _ =>
                          xk_1 x13_2))
                    (op PR Pn (S.alloc 60) fun x13_3 =>
                      rc PR (S.load 60 x6) x59 <|
                      rc PR (S.load 60 x8) x60 <|
                      op PR Pn (S.bslice 22 4 [(0, x59), (1, x60), (2, x61), (3, x62)]) fun x63_1 =>
                      op PR Pn (S.fn F.leatref10_topics [x63_1]) fun x64_2 =>
                      op PR Pn (S.store 60 x13_3 x64_2) fun _ =>
                      xk_1 x13_3))
                (op PR Pn (S.alloc 60) fun x13_4 =>
                  rc PR (S.load 60 x6) x59 <|
                  rc PR (S.load 60 x8) x60 <|
                  op PR Pn (S.fn F.leatref10_one [(.string { data := #[109, 97, 120] }), (.int .i64 3), (.int .i64 0), (.int .i64 3)]) fun x62_1 =>
                  rc PR (S.load 60 x6) x59 <|
                  rc PR (S.load 60 x8) x60 <|
                  op PR Pn (S.bslice 22 4 [(0, x59), (1, x60), (2, x61), (3, x62_1)]) fun x63_2 =>
                  op PR Pn (S.fn F.leatref10_topics [x63_2]) fun x64_3 =>
                  op PR Pn (S.store 60 x13_4 x64_3) fun _ =>
                  xk_1 x13_4))
            (op PR Pn (S.alloc 60) fun x13_5 =>
              rc PR (S.load 60 x6) x59 <|
              rc PR (S.load 60 x8) x60 <|
              op PR Pn (S.fn F.leatref10_one [(.string { data := #[111, 102, 102, 115, 101, 116] }), (.int .i64 4), (.int .i64 0), (.int .i64 3)]) fun x61_1 =>
              rc PR (S.load 60 x6) x59 <|
              rc PR (S.load 60 x8) x60 <|
              op PR Pn (S.fn F.leatref10_one [(.string { data := #[109, 97, 120] }), (.int .i64 3), (.int .i64 0), (.int .i64 3)]) fun x62_2 =>
              rc PR (S.load 60 x6) x59 <|
              rc PR (S.load 60 x8) x60 <|
              op PR Pn (S.bslice 22 4 [(0, x59), (1, x60), (2, x61_1), (3, x62_2)]) fun x63_3 =>
              op PR Pn (S.fn F.leatref10_topics [x63_3]) fun x64_4 =>
              op PR Pn (S.store 60 x13_5 x64_4) fun _ =>
              xk_1 x13_5)))
      (op PR Pn (S.bin .eql 50 (.tmp 73) (.const (.int .i16 1)) a0 (.int .i16 1)) fun x74 =>
        ite' x74
        (J1 (fun x14 =>
            drawn <|
            lt PR (S.load 60 x14) fun x84 =>
            op PR Pn (S.fn F.leatref10_one [(.string { data := #[116, 104, 114, 111, 116, 116, 108, 101] }), (.int .i64 3), (.int .i64 1), (.int .i64 3)]) fun x83 =>
            rc PR (S.load 60 x14) x84 <|
            op PR Pn (S.bslice 22 2 [(0, x83), (1, x84)]) fun x85 =>
            lt PR (S.mv x85) fun x4_3 =>
            lt PR (S.mv (.int .i64 0)) fun x5_3 =>
            K (.tuple #[x4_3, x5_3]))
          (fun xk_2 =>
            drawn <|
            lt PR (S.load 60 x6) fun x75 =>
            lt PR (S.load 60 x7) fun x76 =>
            lt PR (S.load 60 x10) fun x79 =>
            lt PR (S.load 60 x9) fun x80 =>
            also
              (op PR Pn (S.fn F.leatref10_one [(.string { data := #[104, 105, 103, 104] }), (.int .i64 4), (.int .i64 0), (.int .i64 3)]) fun x77 =>
                rc PR (S.load 60 x6) x75 <|
                rc PR (S.load 60 x7) x76 <|
                rc PR (S.load 60 x10) x79 <|
                rc PR (S.load 60 x9) x80 <|
                also
                  (op PR Pn (S.fn F.leatref10_one [(.string { data := #[115, 116, 97, 98, 108, 101] }), (.int .i64 4), (.int .i64 2), (.int .i64 3)]) fun x78 =>
                    rc PR (S.load 60 x6) x75 <|
                    rc PR (S.load 60 x7) x76 <|
                    rc PR (S.load 60 x10) x79 <|
                    rc PR (S.load 60 x9) x80 <|
                    also
                      (op PR Pn (S.bslice 22 6 [(0, x75), (1, x76), (2, x77), (3, x78), (4, x79), (5, x80)]) fun x81 =>
                        also
                          (op PR Pn (S.fn F.leatref10_topics [x81]) fun x82 =>
                            op PR Pn (S.alloc 60) fun x14_1 =>
                            op PR Pn (S.store 60 x14_1 x82) fun _ =>
                            xk_2 x14_1)
                          (op PR Pn (S.alloc 60) fun x14_2 =>
                            op PR Pn (S.fn F.leatref10_topics [x81]) fun x82_1 =>
                            op PR Pn (S.store 60 x14_2 x82_1) fun _ =>
                            xk_2 x14_2))
                      (op PR Pn (S.alloc 60) fun x14_3 =>
                        rc PR (S.load 60 x6) x75 <|
                        rc PR (S.load 60 x7) x76 <|
                        rc PR (S.load 60 x10) x79 <|
                        rc PR (S.load 60 x9) x80 <|
                        op PR Pn (S.bslice 22 6 [(0, x75), (1, x76), (2, x77), (3, x78), (4, x79), (5, x80)]) fun x81_1 =>
                        op PR Pn (S.fn F.leatref10_topics [x81_1]) fun x82_2 =>
                        op PR Pn (S.store 60 x14_3 x82_2) fun _ =>
                        xk_2 x14_3))
                  (op PR Pn (S.alloc 60) fun x14_4 =>
                    rc PR (S.load 60 x6) x75 <|
                    rc PR (S.load 60 x7) x76 <|
                    rc PR (S.load 60 x10) x79 <|
                    rc PR (S.load 60 x9) x80 <|
                    op PR Pn (S.fn F.leatref10_one [(.string { data := #[115, 116, 97, 98, 108, 101] }), (.int .i64 4), (.int .i64 2), (.int .i64 3)]) fun x78_1 =>
                    rc PR (S.load 60 x6) x75 <|
                    rc PR (S.load 60 x7) x76 <|
                    rc PR (S.load 60 x10) x79 <|
                    rc PR (S.load 60 x9) x80 <|
                    op PR Pn (S.bslice 22 6 [(0, x75), (1, x76), (2, x77), (3, x78_1), (4, x79), (5, x80)]) fun x81_2 =>
                    op PR Pn (S.fn F.leatref10_topics [x81_2]) fun x82_3 =>
                    op PR Pn (S.store 60 x14_4 x82_3) fun _ =>
                    xk_2 x14_4))
              (op PR Pn (S.alloc 60) fun x14_5 =>
                rc PR (S.load 60 x6) x75 <|
                rc PR (S.load 60 x7) x76 <|
                rc PR (S.load 60 x10) x79 <|
                rc PR (S.load 60 x9) x80 <|
                op PR Pn (S.fn F.leatref10_one [(.string { data := #[104, 105, 103, 104] }), (.int .i64 4), (.int .i64 0), (.int .i64 3)]) fun x77_1 =>
                rc PR (S.load 60 x6) x75 <|
                rc PR (S.load 60 x7) x76 <|
                rc PR (S.load 60 x10) x79 <|
                rc PR (S.load 60 x9) x80 <|
                op PR Pn (S.fn F.leatref10_one [(.string { data := #[115, 116, 97, 98, 108, 101] }), (.int .i64 4), (.int .i64 2), (.int .i64 3)]) fun x78_2 =>
                rc PR (S.load 60 x6) x75 <|
                rc PR (S.load 60 x7) x76 <|
                rc PR (S.load 60 x10) x79 <|
                rc PR (S.load 60 x9) x80 <|
                op PR Pn (S.bslice 22 6 [(0, x75), (1, x76), (2, x77_1), (3, x78_2), (4, x79), (5, x80)]) fun x81_3 =>
                op PR Pn (S.fn F.leatref10_topics [x81_3]) fun x82_4 =>
                op PR Pn (S.store 60 x14_5 x82_4) fun _ =>
                xk_2 x14_5)))
        (op PR Pn (S.bin .eql 50 (.tmp 87) (.const (.int .i16 2)) a0 (.int .i16 2)) fun x88 =>
          gop PR Pn x88 true (S.mv a1) fun x90 =>
          gop PR Pn x88 true (S.un .not x90) fun x91 =>
          op PR Pn (S.pick x88 x91 (.bool false)) fun x92 =>
          ite' x92
          (J1 (fun x15 =>
              drawn <|
              lt PR (S.load 60 x15) fun x101 =>
              op PR Pn (S.fn F.leatref10_one [(.string { data := #[114, 101, 112, 108, 105, 99, 97] }), (.int .i64 3), (.int .i64 0), (.int .i64 3)]) fun x99 =>
              rc PR (S.load 60 x15) x101 <|
              op PR Pn (S.fn F.leatref10_one [(.string { data := #[108, 101, 118, 101, 108] }), (.int .i64 1), (.int .i64 2), (.int .i64 3)]) fun x100 =>
              rc PR (S.load 60 x15) x101 <|
              op PR Pn (S.bslice 22 3 [(0, x99), (1, x100), (2, x101)]) fun x102 =>
              lt PR (S.mv x102) fun x4_4 =>
              lt PR (S.mv (.int .i64 0)) fun x5_4 =>
              K (.tuple #[x4_4, x5_4]))
            (fun xk_3 =>
              drawn <|
              lt PR (S.load 60 x6) fun x93 =>
              lt PR (S.load 60 x8) fun x94 =>
              also
                (op PR Pn (S.fn F.leatref10_one [(.string { data := #[116, 105, 109, 101] }), (.int .i64 4), (.int .i64 0), (.int .i64 3)]) fun x95 =>
                  rc PR (S.load 60 x6) x93 <|
                  rc PR (S.load 60 x8) x94 <|
                  also
                    (op PR Pn (S.fn F.leatref10_one [(.string { data := #[109, 111, 115, 116] }), (.int .i64 3), (.int .i64 0), (.int .i64 0)]) fun x96 =>
                      rc PR (S.load 60 x6) x93 <|
                      rc PR (S.load 60 x8) x94 <|
                      also
                        (op PR Pn (S.bslice 22 4 [(0, x93), (1, x94), (2, x95), (3, x96)]) fun x97 =>
                          also
                            (op PR Pn (S.fn F.leatref10_topics [x97]) fun x98 =>
                              op PR Pn (S.alloc 60) fun x15_1 =>
                              op PR Pn (S.store 60 x15_1 x98) fun _ =>
                              xk_3 x15_1)
                            (op PR Pn (S.alloc 60) fun x15_2 =>
                              op PR Pn (S.fn F.leatref10_topics [x97]) fun x98_1 =>
                              op PR Pn (S.store 60 x15_2 x98_1) fun _ =>
                              xk_3 x15_2))
                        (op PR Pn (S.alloc 60) fun x15_3 =>
                          rc PR (S.load 60 x6) x93 <|
                          rc PR (S.load 60 x8) x94 <|
                          op PR Pn (S.bslice 22 4 [(0, x93), (1, x94), (2, x95), (3, x96)]) fun x97_1 =>
                          op PR Pn (S.fn F.leatref10_topics [x97_1]) fun x98_2 =>
                          op PR Pn (S.store 60 x15_3 x98_2) fun _ =>
                          xk_3 x15_3))
                    (op PR Pn (S.alloc 60) fun x15_4 =>
                      rc PR (S.load 60 x6) x93 <|
                      rc PR (S.load 60 x8) x94 <|
                      op PR Pn (S.fn F.leatref10_one [(.string { data := #[109, 111, 115, 116] }), (.int .i64 3), (.int .i64 0), (.int .i64 0)]) fun x96_1 =>
                      rc PR (S.load 60 x6) x93 <|
                      rc PR (S.load 60 x8) x94 <|
                      op PR Pn (S.bslice 22 4 [(0, x93), (1, x94), (2, x95), (3, x96_1)]) fun x97_2 =>
                      op PR Pn (S.fn F.leatref10_topics [x97_2]) fun x98_3 =>
                      op PR Pn (S.store 60 x15_4 x98_3) fun _ =>
                      xk_3 x15_4))
                (op PR Pn (S.alloc 60) fun x15_5 =>
                  rc PR (S.load 60 x6) x93 <|
                  rc PR (S.load 60 x8) x94 <|
                  op PR Pn (S.fn F.leatref10_one [(.string { data := #[116, 105, 109, 101] }), (.int .i64 4), (.int .i64 0), (.int .i64 3)]) fun x95_1 =>
                  rc PR (S.load 60 x6) x93 <|
                  rc PR (S.load 60 x8) x94 <|
                  op PR Pn (S.fn F.leatref10_one [(.string { data := #[109, 111, 115, 116] }), (.int .i64 3), (.int .i64 0), (.int .i64 0)]) fun x96_2 =>
                  rc PR (S.load 60 x6) x93 <|
                  rc PR (S.load 60 x8) x94 <|
                  op PR Pn (S.bslice 22 4 [(0, x93), (1, x94), (2, x95_1), (3, x96_2)]) fun x97_3 =>
                  op PR Pn (S.fn F.leatref10_topics [x97_3]) fun x98_4 =>
                  op PR Pn (S.store 60 x15_5 x98_4) fun _ =>
                  xk_3 x15_5)))
          (op PR Pn (S.bin .eql 50 (.tmp 104) (.const (.int .i16 2)) a0 (.int .i16 2)) fun x105 =>
            ite' x105
            (op PR Pn (S.fn F.leatref10_one [(.string { data := #[111, 102, 102, 115, 101, 116] }), (.int .i64 4), (.int .i64 0), (.int .i64 0)]) fun x106 =>
              op PR Pn (S.bslice 22 1 [(0, x106)]) fun x107 =>
              op PR Pn (S.build 60 [(0, (.string { data := #[111, 102, 102, 115, 101, 116, 115] })), (1, (.int .i64 9)), (2, (.int .i64 0)), (3, (.int .i64 0)), (4, x107)]) fun x108 =>
              op PR Pn (S.alloc 60) fun x16 =>
              op PR Pn (S.store 60 x16 x108) fun _ =>
              J1 (fun x17 =>
                drawn <|
                lt PR (S.load 60 x17) fun x118 =>
                op PR Pn (S.fn F.leatref10_one [(.string { data := #[116, 104, 114, 111, 116, 116, 108, 101] }), (.int .i64 3), (.int .i64 2), (.int .i64 3)]) fun x117 =>
                rc PR (S.load 60 x17) x118 <|
                op PR Pn (S.bslice 22 2 [(0, x117), (1, x118)]) fun x119 =>
                lt PR (S.mv x119) fun x4_5 =>
                lt PR (S.mv (.int .i64 0)) fun x5_5 =>
                K (.tuple #[x4_5, x5_5]))
              (fun xk_4 =>
                drawn <|
                lt PR (S.load 60 x6) fun x109 =>
                lt PR (S.load 60 x7) fun x110 =>
                lt PR (S.load 60 x16) fun x111 =>
                lt PR (S.load 60 x8) fun x114 =>
                also
                  (op PR Pn (S.fn F.leatref10_one [(.string { data := #[116, 105, 109, 101] }), (.int .i64 4), (.int .i64 1), (.int .i64 3)]) fun x112 =>
                    rc PR (S.load 60 x6) x109 <|
                    rc PR (S.load 60 x7) x110 <|
                    rc PR (S.load 60 x16) x111 <|
                    rc PR (S.load 60 x8) x114 <|
                    also
                      (op PR Pn (S.fn F.leatref10_one [(.string { data := #[111, 102, 102, 115, 101, 116] }), (.int .i64 4), (.int .i64 1), (.int .i64 3)]) fun x113 =>
                        rc PR (S.load 60 x6) x109 <|
                        rc PR (S.load 60 x7) x110 <|
                        rc PR (S.load 60 x16) x111 <|
                        rc PR (S.load 60 x8) x114 <|
                        also
                          (op PR Pn (S.bslice 22 6 [(0, x109), (1, x110), (2, x111), (3, x112), (4, x113), (5, x114)]) fun x115 =>
                            also
                              (op PR Pn (S.fn F.leatref10_topics [x115]) fun x116 =>
                                op PR Pn (S.alloc 60) fun x17_1 =>
                                op PR Pn (S.store 60 x17_1 x116) fun _ =>
                                xk_4 x17_1)
                              (op PR Pn (S.alloc 60) fun x17_2 =>
                                op PR Pn (S.fn F.leatref10_topics [x115]) fun x116_1 =>
                                op PR Pn (S.store 60 x17_2 x116_1) fun _ =>
                                xk_4 x17_2))
                          (op PR Pn (S.alloc 60) fun x17_3 =>
                            rc PR (S.load 60 x6) x109 <|
                            rc PR (S.load 60 x7) x110 <|
                            rc PR (S.load 60 x16) x111 <|
                            rc PR (S.load 60 x8) x114 <|
                            op PR Pn (S.bslice 22 6 [(0, x109), (1, x110), (2, x111), (3, x112), (4, x113), (5, x114)]) fun x115_1 =>
                            op PR Pn (S.fn F.leatref10_topics [x115_1]) fun x116_2 =>
                            op PR Pn (S.store 60 x17_3 x116_2) fun _ =>
                            xk_4 x17_3))
                      (op PR Pn (S.alloc 60) fun x17_4 =>
                        rc PR (S.load 60 x6) x109 <|
                        rc PR (S.load 60 x7) x110 <|
                        rc PR (S.load 60 x16) x111 <|
                        rc PR (S.load 60 x8) x114 <|
                        op PR Pn (S.fn F.leatref10_one [(.string { data := #[111, 102, 102, 115, 101, 116] }), (.int .i64 4), (.int .i64 1), (.int .i64 3)]) fun x113_1 =>
                        rc PR (S.load 60 x6) x109 <|
                        rc PR (S.load 60 x7) x110 <|
                        rc PR (S.load 60 x16) x111 <|
                        rc PR (S.load 60 x8) x114 <|
                        op PR Pn (S.bslice 22 6 [(0, x109), (1, x110), (2, x111), (3, x112), (4, x113_1), (5, x114)]) fun x115_2 =>
                        op PR Pn (S.fn F.leatref10_topics [x115_2]) fun x116_3 =>
                        op PR Pn (S.store 60 x17_4 x116_3) fun _ =>
                        xk_4 x17_4))
                  (op PR Pn (S.alloc 60) fun x17_5 =>
                    rc PR (S.load 60 x6) x109 <|
                    rc PR (S.load 60 x7) x110 <|
                    rc PR (S.load 60 x16) x111 <|
                    rc PR (S.load 60 x8) x114 <|
                    op PR Pn (S.fn F.leatref10_one [(.string { data := #[116, 105, 109, 101] }), (.int .i64 4), (.int .i64 1), (.int .i64 3)]) fun x112_1 =>
                    rc PR (S.load 60 x6) x109 <|
                    rc PR (S.load 60 x7) x110 <|
                    rc PR (S.load 60 x16) x111 <|
                    rc PR (S.load 60 x8) x114 <|
                    op PR Pn (S.fn F.leatref10_one [(.string { data := #[111, 102, 102, 115, 101, 116] }), (.int .i64 4), (.int .i64 1), (.int .i64 3)]) fun x113_2 =>
                    rc PR (S.load 60 x6) x109 <|
                    rc PR (S.load 60 x7) x110 <|
                    rc PR (S.load 60 x16) x111 <|
                    rc PR (S.load 60 x8) x114 <|
                    op PR Pn (S.bslice 22 6 [(0, x109), (1, x110), (2, x111), (3, x112_1), (4, x113_2), (5, x114)]) fun x115_3 =>
                    op PR Pn (S.fn F.leatref10_topics [x115_3]) fun x116_4 =>
                    op PR Pn (S.store 60 x17_5 x116_4) fun _ =>
                    xk_4 x17_5)))
            (K (.tuple #[(.slice none 0 0), (.int .i64 160)])))))))
theorem enter.leatref10_Table {Pn : PK} {K : Value → WP} {a0 a1 : Value} {w : World} (h : W.leatref10_Table Pn K a0 a1 w) : op PR Pn (S.fn F.leatref10_Table [a0, a1]) K w :=
  op_call (first := []) (cap := []) (args := [a0, a1]) Go.Proofs.Try.func25 (by kernel_rfl) rfl (calls_of_denF (args := [a0, a1]) (h := (.s none .n (.s none .n (.s none .n (.s none .n (.s none .n (.s none .n (.s none (.bl (.s none .n (.c (.s none .n (.s none (.rg (.ev [3] [] (.hv 0 (.ev [] [3] (.hv 1 (.ev [] [3] (.hv 2 (.ev [] [3] (.hv 4 (.ev [5, 6] [] .fin))))))))) [[], [0], [0, 1], [], [0, 1, 2, 3], [0, 1, 2, 3, 4], [0, 1, 2, 3, 4, 5]]) .n)) (.s none .n (.c (.s (some [12]) (.rg (.ev [0, 1, 4] [] (.fork (.hv 2 (.ev [] [0, 1, 4] (.fork (.hv 3 (.ev [] [0, 1, 4] (.fork (.hv 5 (.fork (.hv 6 (.hv 7 (.hv 8 .fin))) (.hv 7 (.hv 6 (.hv 8 .fin))))) (.hv 7 (.ev [] [0, 1, 4] (.hv 5 (.hv 6 (.hv 8 .fin)))))))) (.hv 7 (.ev [] [0, 1, 4] (.hv 3 (.ev [] [0, 1, 4] (.hv 5 (.hv 6 (.hv 8 .fin)))))))))) (.hv 7 (.ev [] [0, 1, 4] (.hv 2 (.ev [] [0, 1, 4] (.hv 3 (.ev [] [0, 1, 4] (.hv 5 (.hv 6 (.hv 8 .fin))))))))))) [[], [], [], [2], [], [0, 1, 2, 3, 4], [0, 1, 2, 3, 4, 5], [], [0, 1, 2, 3, 4, 5, 6, 7]]) (.s none (.rg (.ev [0] [] (.hv 1 (.ev [] [0] (.hv 2 (.ev [3, 4] [] .fin))))) [[], [], [0, 1], [0, 1, 2], [0, 1, 2, 3]]) .n)) (.s none .n (.c (.s (some [13]) (.rg (.ev [0, 1] [] (.fork (.hv 2 (.ev [] [0, 1] (.fork (.hv 3 (.ev [] [0, 1] (.fork (.hv 4 (.fork (.hv 5 (.hv 6 (.hv 7 .fin))) (.hv 6 (.hv 5 (.hv 7 .fin))))) (.hv 6 (.ev [] [0, 1] (.hv 4 (.hv 5 (.hv 7 .fin)))))))) (.hv 6 (.ev [] [0, 1] (.hv 3 (.ev [] [0, 1] (.hv 4 (.hv 5 (.hv 7 .fin)))))))))) (.hv 6 (.ev [] [0, 1] (.hv 2 (.ev [] [0, 1] (.hv 3 (.ev [] [0, 1] (.hv 4 (.hv 5 (.hv 7 .fin))))))))))) [[], [], [], [2], [0, 1, 2, 3], [0, 1, 2, 3, 4], [], [0, 1, 2, 3, 4, 5, 6]]) (.s none (.rg (.ev [5] [] (.hv 0 (.ev [] [5] (.hv 1 (.ev [] [5] (.hv 2 (.ev [] [5] (.hv 3 (.ev [] [5] (.hv 4 (.ev [] [5] (.hv 6 (.ev [7, 8] [] .fin))))))))))))) [[], [0], [0, 1], [0, 1, 2], [0, 1, 2, 3], [], [0, 1, 2, 3, 4, 5], [0, 1, 2, 3, 4, 5, 6], [0, 1, 2, 3, 4, 5, 6, 7]]) .n)) (.s none .n (.c (.s (some [14]) (.rg (.ev [0, 1, 4, 5] [] (.fork (.hv 2 (.ev [] [0, 1, 4, 5] (.fork (.hv 3 (.ev [] [0, 1, 4, 5] (.fork (.hv 6 (.fork (.hv 7 (.hv 8 (.hv 9 .fin))) (.hv 8 (.hv 7 (.hv 9 .fin))))) (.hv 8 (.ev [] [0, 1, 4, 5] (.hv 6 (.hv 7 (.hv 9 .fin)))))))) (.hv 8 (.ev [] [0, 1, 4, 5] (.hv 3 (.ev [] [0, 1, 4, 5] (.hv 6 (.hv 7 (.hv 9 .fin)))))))))) (.hv 8 (.ev [] [0, 1, 4, 5] (.hv 2 (.ev [] [0, 1, 4, 5] (.hv 3 (.ev [] [0, 1, 4, 5] (.hv 6 (.hv 7 (.hv 9 .fin))))))))))) [[], [], [], [2], [], [], [0, 1, 2, 3, 4, 5], [0, 1, 2, 3, 4, 5, 6], [], [0, 1, 2, 3, 4, 5, 6, 7, 8]]) (.s none (.rg (.ev [1] [] (.hv 0 (.ev [] [1] (.hv 2 (.ev [3, 4] [] .fin))))) [[], [], [0, 1], [0, 1, 2], [0, 1, 2, 3]]) .n)) (.s none .n (.c (.s (some [15]) (.rg (.ev [0, 1] [] (.fork (.hv 2 (.ev [] [0, 1] (.fork (.hv 3 (.ev [] [0, 1] (.fork (.hv 4 (.fork (.hv 5 (.hv 6 (.hv 7 .fin))) (.hv 6 (.hv 5 (.hv 7 .fin))))) (.hv 6 (.ev [] [0, 1] (.hv 4 (.hv 5 (.hv 7 .fin)))))))) (.hv 6 (.ev [] [0, 1] (.hv 3 (.ev [] [0, 1] (.hv 4 (.hv 5 (.hv 7 .fin)))))))))) (.hv 6 (.ev [] [0, 1] (.hv 2 (.ev [] [0, 1] (.hv 3 (.ev [] [0, 1] (.hv 4 (.hv 5 (.hv 7 .fin))))))))))) [[], [], [], [2], [0, 1, 2, 3], [0, 1, 2, 3, 4], [], [0, 1, 2, 3, 4, 5, 6]]) (.s none (.rg (.ev [2] [] (.hv 0 (.ev [] [2] (.hv 1 (.ev [] [2] (.hv 3 (.ev [4, 5] [] .fin))))))) [[], [0], [], [0, 1, 2], [0, 1, 2, 3], [0, 1, 2, 3, 4]]) .n)) (.s none .n (.c (.s none .n (.s (some [17]) (.rg (.ev [0, 1, 2, 5] [] (.fork (.hv 3 (.ev [] [0, 1, 2, 5] (.fork (.hv 4 (.ev [] [0, 1, 2, 5] (.fork (.hv 6 (.fork (.hv 7 (.hv 8 (.hv 9 .fin))) (.hv 8 (.hv 7 (.hv 9 .fin))))) (.hv 8 (.ev [] [0, 1, 2, 5] (.hv 6 (.hv 7 (.hv 9 .fin)))))))) (.hv 8 (.ev [] [0, 1, 2, 5] (.hv 4 (.ev [] [0, 1, 2, 5] (.hv 6 (.hv 7 (.hv 9 .fin)))))))))) (.hv 8 (.ev [] [0, 1, 2, 5] (.hv 3 (.ev [] [0, 1, 2, 5] (.hv 4 (.ev [] [0, 1, 2, 5] (.hv 6 (.hv 7 (.hv 9 .fin))))))))))) [[], [], [], [], [3], [], [0, 1, 2, 3, 4, 5], [0, 1, 2, 3, 4, 5, 6], [], [0, 1, 2, 3, 4, 5, 6, 7, 8]]) (.s none (.rg (.ev [1] [] (.hv 0 (.ev [] [1] (.hv 2 (.ev [3, 4] [] .fin))))) [[], [], [0, 1], [0, 1, 2], [0, 1, 2, 3]]) .n))) .n))))))))))))) (.s none .n .n))))))))) mixed Go.Proofs.Try.func25 rfl (by kernel_rfl) (Eq.mp (by kernel_rfl) h))
/-- leat/schema.Check: function 26. -/
def W.schema_Check (Pn : PK) (K : Value → WP) (a0 : Value) : WP :=
  op PR Pn (S.fn F.schema_fields [a0, (.int .i64 1)]) fun x4 =>
  op PR Pn (S.un .not x4) fun x5 =>
  ite' x5
  (K (.int .i64 100))
  (K (.int .i64 0))
theorem enter.schema_Check {Pn : PK} {K : Value → WP} {a0 : Value} {w : World} (h : W.schema_Check Pn K a0 w) : op PR Pn (S.fn F.schema_Check [a0]) K w :=
  op_call (first := []) (cap := []) (args := [a0]) Go.Proofs.Try.func26 (by kernel_rfl) rfl (calls_of_denF (args := [a0]) (h := (.s none .n (.s none (.s none .n (.c (.s none .n .n) .n)) (.s none .n .n)))) mixed Go.Proofs.Try.func26 rfl (by kernel_rfl) (Eq.mp (by kernel_rfl) h))
/-- leat/leatlaw10.spoil: function 27. -/
def W.leatlaw10_spoil (Pn : PK) (K : Value → WP) (a0 : Value) : WP :=
  op PR Pn (S.bi .len #[22] 3 [false] [a0]) fun x4 =>
  L1 (.int .i64 0) (fun x5 xk =>
    op PR Pn (S.bin .lss 3 (.tmp 5) (.tmp 4) x5 x4) fun x6 =>
    ite' x6
    (op PR Pn (S.ia 22 a0 x5) fun x10 =>
      op PR Pn (S.fa 60 x10 4) fun x11 =>
      op PR Pn (S.load 22 x11) fun x12 =>
      op PR Pn (S.fn F.leatlaw10_spoil [x12]) fun x13 =>
      op PR Pn (S.ia 22 a0 x5) fun x16 =>
      op PR Pn (S.fa 60 x16 0) fun x17 =>
      op PR Pn (S.store 9 x17 (.string { data := #[63] })) fun _ =>
      op PR Pn (S.ia 22 a0 x5) fun x20 =>
      op PR Pn (S.fa 60 x20 1) fun x21 =>
      op PR Pn (S.store 3 x21 (.int .i64 77)) fun _ =>
      op PR Pn (S.bin .add 3 (.tmp 5) (.const (.int .i64 1)) x5 (.int .i64 1)) fun x22 =>
      xk x22)
    (K (.tuple #[])))
theorem enter.leatlaw10_spoil {Pn : PK} {K : Value → WP} {a0 : Value} {w : World} (h : W.leatlaw10_spoil Pn K a0 w) : op PR Pn (S.fn F.leatlaw10_spoil [a0]) K w :=
  op_call (first := []) (cap := []) (args := [a0]) Go.Proofs.Try.func27 (by kernel_rfl) rfl (calls_of_denF (args := [a0]) (h := (.s none .n (.bl (.lp [5] (.s none .n (.s none (.c .n .n) (.s none (.bl (.s none .n (.s none .n (.s none .n .n)))) .n))))))) mixed Go.Proofs.Try.func27 rfl (by kernel_rfl) (Eq.mp (by kernel_rfl) h))
/-- leat/leatlaw10.pair: function 28. -/
def W.leatlaw10_pair (Pn : PK) (K : Value → WP) : WP :=
  op PR Pn (S.build 60 [(0, (.string { data := #[97] })), (1, (.int .i64 2)), (2, (.int .i64 0)), (3, (.int .i64 3))]) fun x1 =>
  op PR Pn (S.build 60 [(0, (.string { data := #[98] })), (1, (.int .i64 6)), (2, (.int .i64 1)), (3, (.int .i64 1))]) fun x2 =>
  op PR Pn (S.bslice 22 2 [(0, x1), (1, x2)]) fun x3 =>
  K x3
theorem enter.leatlaw10_pair {Pn : PK} {K : Value → WP} {w : World} (h : W.leatlaw10_pair Pn K  w) : op PR Pn (S.fn F.leatlaw10_pair []) K w :=
  op_call (first := []) (cap := []) (args := []) Go.Proofs.Try.func28 (by kernel_rfl) rfl (calls_of_denF (args := []) (h := (.s none .n (.s none .n .n))) mixed Go.Proofs.Try.func28 rfl (by kernel_rfl) (Eq.mp (by kernel_rfl) h))
/-- leat/leatref10.begin: function 29. -/
def W.leatref10_begin (Pn : PK) (K : Value → WP) (a0 a1 : Value) : WP :=
  op PR Pn (S.bin .lss 3 (.tmp 5) (.const (.int .i64 0)) a1 (.int .i64 0)) fun x6 =>
  gop PR Pn x6 false (S.mv a1) fun x8 =>
  gop PR Pn x6 false (S.bin .gtr 3 (.tmp 8) (.const (.int .i64 3)) x8 (.int .i64 3)) fun x9 =>
  op PR Pn (S.pick x6 (.bool true) x9) fun x10 =>
  ite' x10
  (K (.int .i64 8))
  (op PR Pn (S.fn F.leatref10_Check [a0]) fun x12 =>
    K x12)
theorem enter.leatref10_begin {Pn : PK} {K : Value → WP} {a0 a1 : Value} {w : World} (h : W.leatref10_begin Pn K a0 a1 w) : op PR Pn (S.fn F.leatref10_begin [a0, a1]) K w :=
  op_call (first := []) (cap := []) (args := [a0, a1]) Go.Proofs.Try.func29 (by kernel_rfl) rfl (calls_of_denF (args := [a0, a1]) (h := (.s none .n (.s none (.s none .n (.c (.s none .n .n) .n)) (.s none .n .n)))) mixed Go.Proofs.Try.func29 rfl (by kernel_rfl) (Eq.mp (by kernel_rfl) h))
/-- leat/leatref10.readParts: function 30. -/
def W.leatref10_readParts (Pn : PK) (K : Value → WP) (a0 a1 a2 a3 : Value) : WP :=
  op PR Pn (S.alloc 29) fun x8 =>
  op PR Pn (S.fn F.leatref10_Here [a0, a1]) fun x19 =>
  op PR Pn (S.bslice 27 0 []) fun x20 =>
  L5 a3 (.int .i64 0) (.int .i64 0) x20 (.int .i64 0) (fun x3 x9 x10 x12 x13 xk =>
    op PR Pn (S.bi .len #[22] 3 [false] [x19]) fun x23 =>
    op PR Pn (S.bin .lss 3 (.tmp 21) (.tmp 23) x13 x23) fun x24 =>
    ite' x24
    (op PR Pn (S.ia 22 x19 x13) fun x30 =>
      op PR Pn (S.load 60 x30) fun x31 =>
      op PR Pn (S.fn F.leatref10_read [x31, a1, a2, x3]) fun x35 =>
      op PR Pn (S.ext x35 0) fun x36 =>
      op PR Pn (S.ext x35 1) fun x37 =>
      op PR Pn (S.ext x35 2) fun x38 =>
      op PR Pn (S.alloc 29) fun x14 =>
      op PR Pn (S.store 29 x14 x36) fun _ =>
      op PR Pn (S.bin .neq 3 (.tmp 39) (.const (.int .i64 0)) x38 (.int .i64 0)) fun x40 =>
      ite' x40
      (op PR Pn (S.build 29 []) fun x41 =>
        op PR Pn (S.store 29 x8 x41) fun _ =>
        ldR PR 29 x8 fun xr => K (.tuple #[xr, (.int .i64 0), x38]))
      (op PR Pn (S.load 29 x14) fun x44 =>
        op PR Pn (S.bslice 27 1 [(0, x44)]) fun x45 =>
        op PR Pn (S.bi .append #[27, 27] 27 [false, false] [x12, x45]) fun x46 =>
        op PR Pn (S.bin .add 3 (.tmp 25) (.const (.int .i64 1)) x13 (.int .i64 1)) fun x26 =>
        xk x37 x9 x10 x46 x26))
    (op PR Pn (S.build 29 [(0, (.int .i64 10)), (4, x12)]) fun x49 =>
      op PR Pn (S.store 29 x8 x49) fun _ =>
      ldR PR 29 x8 fun xr_1 => K (.tuple #[xr_1, x3, (.int .i64 0)])))
theorem enter.leatref10_readParts {Pn : PK} {K : Value → WP} {a0 a1 a2 a3 : Value} {w : World} (h : W.leatref10_readParts Pn K a0 a1 a2 a3 w) : op PR Pn (S.fn F.leatref10_readParts [a0, a1, a2, a3]) K w :=
  op_call (first := []) (cap := []) (args := [a0, a1, a2, a3]) Go.Proofs.Try.func30 (by kernel_rfl) rfl (calls_of_denF (args := [a0, a1, a2, a3]) (h := (.s none .n (.s none .n (.s none .n (.s none (.s none .n (.bl (.lp [3, 9, 10, 12, 13] (.s none (.s none .n (.c .n .n)) (.s none (.bl (.s none .n (.s none (.s none .n (.c (.s none .n .n) .n)) (.s none .n .n)))) .n))))) (.s none .n .n)))))) mixed Go.Proofs.Try.func30 rfl (by kernel_rfl) (Eq.mp (by kernel_rfl) h))
/-- leat/schema.root: function 31. -/
def W.schema_root (Pn : PK) (K : Value → WP) (a0 a1 : Value) : WP :=
  op PR Pn (S.alloc 66) fun x4 =>
  op PR Pn (S.bin .lss 3 (.tmp 7) (.const (.int .i64 0)) a1 (.int .i64 0)) fun x8 =>
  gop PR Pn x8 false (S.mv a1) fun x10 =>
  gop PR Pn x8 false (S.bin .gtr 3 (.tmp 10) (.const (.int .i64 3)) x10 (.int .i64 3)) fun x11 =>
  op PR Pn (S.pick x8 (.bool true) x11) fun x12 =>
  ite' x12
  (op PR Pn (S.build 66 []) fun x13 =>
    op PR Pn (S.store 66 x4 x13) fun _ =>
    ldR PR 66 x4 fun xr => K (.tuple #[xr, (.int .i64 8)]))
  (op PR Pn (S.fn F.schema_Check [a0]) fun x15 =>
    op PR Pn (S.bin .neq 32 (.tmp 16) (.const (.int .i64 0)) x15 (.int .i64 0)) fun x17 =>
    ite' x17
    (op PR Pn (S.build 66 []) fun x18 =>
      op PR Pn (S.store 66 x4 x18) fun _ =>
      ldR PR 66 x4 fun xr_1 => K (.tuple #[xr_1, x15]))
    (op PR Pn (S.fn F.schema_whole [a0, a1]) fun x22 =>
      op PR Pn (S.store 66 x4 x22) fun _ =>
      ldR PR 66 x4 fun xr_2 => K (.tuple #[xr_2, (.int .i64 0)])))
theorem enter.schema_root {Pn : PK} {K : Value → WP} {a0 a1 : Value} {w : World} (h : W.schema_root Pn K a0 a1 w) : op PR Pn (S.fn F.schema_root [a0, a1]) K w :=
  op_call (first := []) (cap := []) (args := [a0, a1]) Go.Proofs.Try.func31 (by kernel_rfl) rfl (calls_of_denF (args := [a0, a1]) (h := (.s none .n (.s none (.s none .n (.c (.s none .n .n) .n)) (.s none (.s none .n (.s none .n (.c (.s none .n .n) .n))) (.s none .n .n))))) mixed Go.Proofs.Try.func31 rfl (by kernel_rfl) (Eq.mp (by kernel_rfl) h))
/-- leat/cursor.NewReader: function 32. -/
def W.cursor_NewReader (Pn : PK) (K : Value → WP) (a0 : Value) : WP :=
  op PR Pn (S.fn F.bytes_Clone [a0]) fun x4 =>
  op PR Pn (S.build 91 [(0, x4)]) fun x5 =>
  op PR Pn (S.box 91 x5) fun x6 =>
  K x6
theorem enter.cursor_NewReader {Pn : PK} {K : Value → WP} {a0 : Value} {w : World} (h : W.cursor_NewReader Pn K a0 w) : op PR Pn (S.fn F.cursor_NewReader [a0]) K w :=
  op_call (first := []) (cap := []) (args := [a0]) Go.Proofs.Try.func32 (by kernel_rfl) rfl (calls_of_denF (args := [a0]) (h := (.s none .n (.s none .n .n))) mixed Go.Proofs.Try.func32 rfl (by kernel_rfl) (Eq.mp (by kernel_rfl) h))
/-- (leat/schema.record).get: function 33. -/
def W.schema_record_get (Pn : PK) (K : Value → WP) (a0 a1 : Value) : WP :=
  op PR Pn (S.box 66 a0) fun x2 =>
  op PR Pn (S.alloc 29) fun x4 =>
  op PR Pn (S.build 29 [(0, (.int .i64 10))]) fun x11 =>
  op PR Pn (S.alloc 29) fun x6 =>
  op PR Pn (S.store 29 x6 x11) fun _ =>
  op PR Pn (S.fa 66 x2 0) fun x12 =>
  op PR Pn (S.load 64 x12) fun x13 =>
  op PR Pn (S.bi .len #[64] 3 [false] [x13]) fun x14 =>
  L2 (.int .i64 0) (.int .i64 0) (fun x5 x15 xk =>
    op PR Pn (S.bin .lss 3 (.tmp 15) (.tmp 14) x15 x14) fun x16 =>
    ite' x16
    (op PR Pn (S.ia 64 x13 x15) fun x17 =>
      op PR Pn (S.load 93 x17) fun x18 =>
      op PR Pn (S.invoke x18 "leat/schema.get" [a1]) fun x22 =>
      op PR Pn (S.ext x22 0) fun x23 =>
      op PR Pn (S.ext x22 1) fun x24 =>
      op PR Pn (S.alloc 29) fun x9 =>
      op PR Pn (S.store 29 x9 x23) fun _ =>
      op PR Pn (S.bin .neq 32 (.tmp 25) (.const (.int .i64 0)) x24 (.int .i64 0)) fun x26 =>
      ite' x26
      (op PR Pn (S.build 29 []) fun x27 =>
        op PR Pn (S.store 29 x4 x27) fun _ =>
        ldR PR 29 x4 fun xr => K (.tuple #[xr, x24]))
      (op PR Pn (S.fa 29 x6 4) fun x29 =>
        op PR Pn (S.load 27 x29) fun x30 =>
        op PR Pn (S.load 29 x9) fun x31 =>
        op PR Pn (S.bslice 27 1 [(0, x31)]) fun x32 =>
        op PR Pn (S.bi .append #[27, 27] 27 [false, false] [x30, x32]) fun x33 =>
        op PR Pn (S.fa 29 x6 4) fun x34 =>
        op PR Pn (S.store 27 x34 x33) fun _ =>
        op PR Pn (S.bin .add 3 (.tmp 15) (.const (.int .i64 1)) x15 (.int .i64 1)) fun x35 =>
        xk x5 x35))
    (op PR Pn (S.load 29 x6) fun x36 =>
      op PR Pn (S.store 29 x4 x36) fun _ =>
      ldR PR 29 x4 fun xr_1 => K (.tuple #[xr_1, (.int .i64 0)])))
theorem enter.schema_record_get {Pn : PK} {K : Value → WP} {a0 a1 : Value} {w : World} (h : W.schema_record_get Pn K a0 a1 w) : op PR Pn (S.fn F.schema_record_get [a0, a1]) K w :=
  op_call (first := []) (cap := []) (args := [a0, a1]) Go.Proofs.Try.func33 (by kernel_rfl) rfl (calls_of_denF (args := [a0, a1]) (h := (.s none .n (.s none .n (.s none (.s none .n (.bl (.lp [5, 15] (.s none .n (.s none (.c .n .n) (.s none (.bl (.s none .n (.s none .n (.s none (.s none .n (.c (.s none .n .n) .n)) .n)))) .n)))))) (.s none .n .n))))) mixed Go.Proofs.Try.func33 rfl (by kernel_rfl) (Eq.mp (by kernel_rfl) h))
/-- (*leat/cursor.Reader).End: function 34. -/
def W.cursor_Reader_End (Pn : PK) (K : Value → WP) (a0 : Value) : WP :=
  drawn <|
  lt PR (S.mv a0) fun x3 =>
  lt PR (S.nilc x3) fun x4 =>
  lt PR (S.fa 91 x4 1) fun x5 =>
  lt PR (S.load 3 x5) fun x6 =>
  lt PR (S.mv a0) fun x7 =>
  lt PR (S.nilc x7) fun x8 =>
  lt PR (S.fa 91 x8 0) fun x9 =>
  lt PR (S.load 23 x9) fun x10 =>
  lt PR (S.bi .len #[23] 3 [false] [x10]) fun x11 =>
  lt PR (S.bin .lss 3 (.tmp 6) (.tmp 11) x6 x11) fun x12 =>
  ite' x12
  (K (.int .i64 2))
  (K (.int .i64 0))
theorem enter.cursor_Reader_End {Pn : PK} {K : Value → WP} {a0 : Value} {w : World} (h : W.cursor_Reader_End Pn K a0 w) : op PR Pn (S.fn F.cursor_Reader_End [a0]) K w :=
  op_call (first := []) (cap := []) (args := [a0]) Go.Proofs.Try.func34 (by kernel_rfl) rfl (calls_of_denF (args := [a0]) (h := (.s none .n (.s none (.s none (.rg (.ev [0, 1, 2, 3, 4, 5, 6, 7, 8, 9] [] .fin) [[], [0], [0, 1], [0, 1, 2], [], [4], [4, 5], [4, 5, 6], [4, 5, 6, 7], [0, 1, 2, 3, 4, 5, 6, 7, 8]]) (.c (.s none .n .n) .n)) (.s none .n .n)))) mixed Go.Proofs.Try.func34 rfl (by kernel_rfl) (Eq.mp (by kernel_rfl) h))
/-- leat/leatref01.Spoil: function 35. -/
def W.leatref01_Spoil (Pn : PK) (K : Value → WP) (a0 : Value) : WP :=
  L1 (.int .i64 0) (fun x2 xk =>
    op PR Pn (S.bi .len #[23] 3 [false] [a0]) fun x5 =>
    op PR Pn (S.bin .lss 3 (.tmp 3) (.tmp 5) x2 x5) fun x6 =>
    ite' x6
    (op PR Pn (S.ia 23 a0 x2) fun x13 =>
      op PR Pn (S.load 5 x13) fun x14 =>
      op PR Pn (S.bin .xor 5 (.tmp 14) (.const (.int .u8 90)) x14 (.int .u8 90)) fun x15 =>
      op PR Pn (S.ia 23 a0 x2) fun x16 =>
      op PR Pn (S.store 5 x16 x15) fun _ =>
      op PR Pn (S.bin .add 3 (.tmp 7) (.const (.int .i64 1)) x2 (.int .i64 1)) fun x8 =>
      xk x8)
    (K (.tuple #[])))
theorem enter.leatref01_Spoil {Pn : PK} {K : Value → WP} {a0 : Value} {w : World} (h : W.leatref01_Spoil Pn K a0 w) : op PR Pn (S.fn F.leatref01_Spoil [a0]) K w :=
  op_call (first := []) (cap := []) (args := [a0]) Go.Proofs.Try.func35 (by kernel_rfl) rfl (calls_of_denF (args := [a0]) (h := (.s none .n (.bl (.lp [2] (.s none (.s none .n (.c .n .n)) (.s none (.bl .n) .n)))))) mixed Go.Proofs.Try.func35 rfl (by kernel_rfl) (Eq.mp (by kernel_rfl) h))
/-- leat/leatref01.Turned: function 36. -/
def W.leatref01_Turned (Pn : PK) (K : Value → WP) (a0 a1 : Value) : WP :=
  op PR Pn (S.bi .len #[23] 3 [false] [a0]) fun x7 =>
  op PR Pn (S.bi .len #[23] 3 [false] [a1]) fun x9 =>
  op PR Pn (S.bin .neq 3 (.tmp 7) (.tmp 9) x7 x9) fun x10 =>
  ite' x10
  (K (.bool false))
  (L2 (.bool false) (.int .i64 0) (fun x4 x5 xk =>
      op PR Pn (S.bi .len #[23] 3 [false] [a0]) fun x13 =>
      op PR Pn (S.bin .lss 3 (.tmp 11) (.tmp 13) x5 x13) fun x14 =>
      ite' x14
      (drawn <|
        lt PR (S.mv a0) fun x17 =>
        lt PR (S.mv x5) fun x18 =>
        lt PR (S.ia 23 x17 x18) fun x19 =>
        lt PR (S.load 5 x19) fun x20 =>
        lt PR (S.mv a1) fun x21 =>
        lt PR (S.mv x5) fun x22 =>
        lt PR (S.ia 23 x21 x22) fun x23 =>
        lt PR (S.load 5 x23) fun x24 =>
        lt PR (S.bin .xor 5 (.tmp 24) (.const (.int .u8 90)) x24 (.int .u8 90)) fun x25 =>
        lt PR (S.bin .neq 5 (.tmp 20) (.tmp 25) x20 x25) fun x26 =>
        ite' x26
        (K (.bool false))
        (op PR Pn (S.bin .add 3 (.tmp 15) (.const (.int .i64 1)) x5 (.int .i64 1)) fun x16 =>
          xk x4 x16))
      (K (.bool true))))
theorem enter.leatref01_Turned {Pn : PK} {K : Value → WP} {a0 a1 : Value} {w : World} (h : W.leatref01_Turned Pn K a0 a1 w) : op PR Pn (S.fn F.leatref01_Turned [a0, a1]) K w :=
  op_call (first := []) (cap := []) (args := [a0, a1]) Go.Proofs.Try.func36 (by kernel_rfl) rfl (calls_of_denF (args := [a0, a1]) (h := (.s none .n (.s none (.s none .n (.c (.s none .n .n) .n)) (.s none (.s none .n (.bl (.lp [4, 5] (.s none (.s none .n (.c .n .n)) (.s none (.bl (.s none (.rg (.ev [0, 1, 2, 3, 4, 5, 6, 7, 8, 9] [] .fin) [[], [], [0, 1], [0, 1, 2], [], [], [4, 5], [4, 5, 6], [4, 5, 6, 7], [0, 1, 2, 3, 4, 5, 6, 7, 8]]) (.c (.s none .n .n) .n))) .n))))) (.s none .n .n))))) mixed Go.Proofs.Try.func36 rfl (by kernel_rfl) (Eq.mp (by kernel_rfl) h))
/-- (leat/schema.record).check: function 37. -/
def W.schema_record_check (Pn : PK) (K : Value → WP) (a0 a1 : Value) : WP :=
  op PR Pn (S.box 66 a0) fun x2 =>
  op PR Pn (S.box 29 a1) fun x3 =>
  op PR Pn (S.load 29 x3) fun x8 =>
  op PR Pn (S.fn F.schema_plain [x8, (.int .i64 10), (.bool false), (.bool false), (.bool false), (.bool true)]) fun x9 =>
  op PR Pn (S.un .not x9) fun x10 =>
  gop PR Pn x10 false (S.fa 29 x3 4) fun x12 =>
  gop PR Pn x10 false (S.load 27 x12) fun x13 =>
  gop PR Pn x10 false (S.bi .len #[27] 3 [false] [x13]) fun x14 =>
  gop PR Pn x10 false (S.fa 66 x2 0) fun x15 =>
  gop PR Pn x10 false (S.load 64 x15) fun x16 =>
  gop PR Pn x10 false (S.bi .len #[64] 3 [false] [x16]) fun x17 =>
  gop PR Pn x10 false (S.bin .neq 3 (.tmp 14) (.tmp 17) x14 x17) fun x18 =>
  op PR Pn (S.pick x10 (.bool true) x18) fun x19 =>
  ite' x19
  (K (.int .i64 101))
  (op PR Pn (S.fa 29 x3 4) fun x20 =>
    op PR Pn (S.load 27 x20) fun x21 =>
    op PR Pn (S.bi .len #[27] 3 [false] [x21]) fun x22 =>
    L2 (.int .i64 0) (.int .i64 0) (fun x4 x23 xk =>
      op PR Pn (S.bin .lss 3 (.tmp 23) (.tmp 22) x23 x22) fun x24 =>
      ite' x24
      (op PR Pn (S.ia 27 x21 x23) fun x26 =>
        op PR Pn (S.load 29 x26) fun x27 =>
        op PR Pn (S.alloc 29) fun x6 =>
        op PR Pn (S.store 29 x6 x27) fun _ =>
        drawn <|
        lt PR (S.fa 66 x2 0) fun x28 =>
        lt PR (S.load 64 x28) fun x29 =>
        lt PR (S.mv x23) fun x30 =>
        lt PR (S.ia 64 x29 x30) fun x31 =>
        lt PR (S.load 93 x31) fun x32 =>
        lt PR (S.load 29 x6) fun x33 =>
        op PR Pn (S.invoke x32 "leat/schema.check" [x33]) fun x34 =>
        lt PR (S.mv x34) fun x7 =>
        op PR Pn (S.bin .neq 32 (.tmp 35) (.const (.int .i64 0)) x7 (.int .i64 0)) fun x36 =>
        ite' x36
        (K x7)
        (op PR Pn (S.bin .add 3 (.tmp 23) (.const (.int .i64 1)) x23 (.int .i64 1)) fun x38 =>
          xk x4 x38))
      (K (.int .i64 0))))
theorem enter.schema_record_check {Pn : PK} {K : Value → WP} {a0 a1 : Value} {w : World} (h : W.schema_record_check Pn K a0 a1 w) : op PR Pn (S.fn F.schema_record_check [a0, a1]) K w :=
  op_call (first := []) (cap := []) (args := [a0, a1]) Go.Proofs.Try.func37 (by kernel_rfl) rfl (calls_of_denF (args := [a0, a1]) (h := (.s none .n (.s none (.s none .n (.c (.s none .n .n) .n)) (.s none (.s none .n (.bl (.lp [4, 23] (.s none .n (.s none (.c .n .n) (.s none (.bl (.s none .n (.s none (.rg (.ev [0, 1, 2, 3, 4, 5] [] (.hv 6 (.ev [7] [] .fin))) [[], [0], [], [0, 1, 2], [0, 1, 2, 3], [], [0, 1, 2, 3, 4, 5], [0, 1, 2, 3, 4, 5, 6]]) (.s none .n (.c (.s none .n .n) .n))))) .n)))))) (.s none .n .n))))) mixed Go.Proofs.Try.func37 rfl (by kernel_rfl) (Eq.mp (by kernel_rfl) h))
/-- leat/cursor.NewWriter: function 38. -/
def W.cursor_NewWriter (Pn : PK) (K : Value → WP) (a0 : Value) : WP :=
  op PR Pn (S.bi .max #[3, 3] 3 [false, true] [a0, (.int .i64 0)]) fun x4 =>
  op PR Pn (S.bi .min #[3, 3] 3 [false, true] [x4, (.int .i64 1048576)]) fun x5 =>
  op PR Pn (S.build 96 [(1, x5)]) fun x6 =>
  op PR Pn (S.box 96 x6) fun x7 =>
  K x7
theorem enter.cursor_NewWriter {Pn : PK} {K : Value → WP} {a0 : Value} {w : World} (h : W.cursor_NewWriter Pn K a0 w) : op PR Pn (S.fn F.cursor_NewWriter [a0]) K w :=
  op_call (first := []) (cap := []) (args := [a0]) Go.Proofs.Try.func38 (by kernel_rfl) rfl (calls_of_denF (args := [a0]) (h := (.s none .n (.s none .n .n))) mixed Go.Proofs.Try.func38 rfl (by kernel_rfl) (Eq.mp (by kernel_rfl) h))
/-- (leat/schema.record).put: function 39. -/
def W.schema_record_put (Pn : PK) (K : Value → WP) (a0 a1 a2 : Value) : WP :=
  op PR Pn (S.box 66 a0) fun x3 =>
  op PR Pn (S.box 29 a2) fun x5 =>
  op PR Pn (S.fa 29 x5 4) fun x10 =>
  op PR Pn (S.load 27 x10) fun x11 =>
  op PR Pn (S.bi .len #[27] 3 [false] [x11]) fun x12 =>
  L2 (.int .i64 0) (.int .i64 0) (fun x6 x13 xk =>
    op PR Pn (S.bin .lss 3 (.tmp 13) (.tmp 12) x13 x12) fun x14 =>
    ite' x14
    (op PR Pn (S.ia 27 x11 x13) fun x16 =>
      op PR Pn (S.load 29 x16) fun x17 =>
      op PR Pn (S.alloc 29) fun x8 =>
      op PR Pn (S.store 29 x8 x17) fun _ =>
      drawn <|
      lt PR (S.fa 66 x3 0) fun x18 =>
      lt PR (S.load 64 x18) fun x19 =>
      lt PR (S.mv x13) fun x20 =>
      lt PR (S.ia 64 x19 x20) fun x21 =>
      lt PR (S.load 93 x21) fun x22 =>
      lt PR (S.mv a1) fun x23 =>
      lt PR (S.load 29 x8) fun x24 =>
      op PR Pn (S.invoke x22 "leat/schema.put" [x23, x24]) fun x25 =>
      lt PR (S.mv x25) fun x9 =>
      op PR Pn (S.bin .neq 32 (.tmp 26) (.const (.int .i64 0)) x9 (.int .i64 0)) fun x27 =>
      ite' x27
      (K x9)
      (op PR Pn (S.bin .add 3 (.tmp 13) (.const (.int .i64 1)) x13 (.int .i64 1)) fun x29 =>
        xk x6 x29))
    (K (.int .i64 0)))
theorem enter.schema_record_put {Pn : PK} {K : Value → WP} {a0 a1 a2 : Value} {w : World} (h : W.schema_record_put Pn K a0 a1 a2 w) : op PR Pn (S.fn F.schema_record_put [a0, a1, a2]) K w :=
  op_call (first := []) (cap := []) (args := [a0, a1, a2]) Go.Proofs.Try.func39 (by kernel_rfl) rfl (calls_of_denF (args := [a0, a1, a2]) (h := (.s none .n (.s none (.s none .n (.bl (.lp [6, 13] (.s none .n (.s none (.c .n .n) (.s none (.bl (.s none .n (.s none (.rg (.ev [0, 1, 2, 3, 4, 5, 6] [] (.hv 7 (.ev [8] [] .fin))) [[], [0], [], [0, 1, 2], [0, 1, 2, 3], [], [], [0, 1, 2, 3, 4, 5, 6], [0, 1, 2, 3, 4, 5, 6, 7]]) (.s none .n (.c (.s none .n .n) .n))))) .n)))))) (.s none .n .n)))) mixed Go.Proofs.Try.func39 rfl (by kernel_rfl) (Eq.mp (by kernel_rfl) h))
/-- (*leat/cursor.Writer).Bytes: function 40. -/
def W.cursor_Writer_Bytes (Pn : PK) (K : Value → WP) (a0 : Value) : WP :=
  op PR Pn (S.nilc a0) fun x4 =>
  op PR Pn (S.fa 96 x4 0) fun x5 =>
  op PR Pn (S.load 23 x5) fun x6 =>
  op PR Pn (S.fn F.bytes_Clone [x6]) fun x7 =>
  K x7
theorem enter.cursor_Writer_Bytes {Pn : PK} {K : Value → WP} {a0 : Value} {w : World} (h : W.cursor_Writer_Bytes Pn K a0 w) : op PR Pn (S.fn F.cursor_Writer_Bytes [a0]) K w :=
  op_call (first := []) (cap := []) (args := [a0]) Go.Proofs.Try.func40 (by kernel_rfl) rfl (calls_of_denF (args := [a0]) (h := (.s none .n (.s none .n .n))) mixed Go.Proofs.Try.func40 rfl (by kernel_rfl) (Eq.mp (by kernel_rfl) h))
/-- leat/leatref10.shape: function 41. -/
def W.leatref10_shape (Pn : PK) (K : Value → WP) (a0 a1 : Value) : WP :=
  op PR Pn (S.box 60 a0) fun x2 =>
  op PR Pn (S.box 29 a1) fun x3 =>
  op PR Pn (S.fa 29 x3 0) fun x5 =>
  op PR Pn (S.load 3 x5) fun x6 =>
  op PR Pn (S.fa 60 x2 1) fun x7 =>
  op PR Pn (S.load 3 x7) fun x8 =>
  op PR Pn (S.bin .neq 3 (.tmp 6) (.tmp 8) x6 x8) fun x9 =>
  ite' x9
  (K (.bool false))
  (op PR Pn (S.fa 60 x2 1) fun x10 =>
    op PR Pn (S.load 3 x10) fun x11 =>
    op PR Pn (S.bin .gtr 3 (.tmp 11) (.const (.int .i64 4)) x11 (.int .i64 4)) fun x12 =>
    gop PR Pn x12 true (S.fa 29 x3 1) fun x14 =>
    gop PR Pn x12 true (S.load 2 x14) fun x15 =>
    gop PR Pn x12 true (S.bin .neq 2 (.tmp 15) (.const (.int .i64 0)) x15 (.int .i64 0)) fun x16 =>
    op PR Pn (S.pick x12 x16 (.bool false)) fun x17 =>
    ite' x17
    (K (.bool false))
    (op PR Pn (S.fa 60 x2 1) fun x18 =>
      op PR Pn (S.load 3 x18) fun x19 =>
      op PR Pn (S.bin .lss 3 (.tmp 19) (.const (.int .i64 5)) x19 (.int .i64 5)) fun x20 =>
      gop PR Pn x20 false (S.fa 60 x2 1) fun x22 =>
      gop PR Pn x20 false (S.load 3 x22) fun x23 =>
      gop PR Pn x20 false (S.bin .gtr 3 (.tmp 23) (.const (.int .i64 8)) x23 (.int .i64 8)) fun x24 =>
      op PR Pn (S.pick x20 (.bool true) x24) fun x25 =>
      gop PR Pn x25 true (S.fa 29 x3 3) fun x27 =>
      gop PR Pn x25 true (S.load 23 x27) fun x28 =>
      gop PR Pn x25 true (S.bi .len #[23] 3 [false] [x28]) fun x29 =>
      gop PR Pn x25 true (S.bin .gtr 3 (.tmp 29) (.const (.int .i64 0)) x29 (.int .i64 0)) fun x30 =>
      op PR Pn (S.pick x25 x30 (.bool false)) fun x31 =>
      ite' x31
      (K (.bool false))
      (op PR Pn (S.fa 60 x2 1) fun x32 =>
        op PR Pn (S.load 3 x32) fun x33 =>
        op PR Pn (S.bin .neq 3 (.tmp 33) (.const (.int .i64 6)) x33 (.int .i64 6)) fun x34 =>
        gop PR Pn x34 true (S.fa 60 x2 1) fun x36 =>
        gop PR Pn x34 true (S.load 3 x36) fun x37 =>
        gop PR Pn x34 true (S.bin .neq 3 (.tmp 37) (.const (.int .i64 8)) x37 (.int .i64 8)) fun x38 =>
        op PR Pn (S.pick x34 x38 (.bool false)) fun x39 =>
        gop PR Pn x39 true (S.fa 29 x3 2) fun x41 =>
        gop PR Pn x39 true (S.load 4 x41) fun x42 =>
        op PR Pn (S.pick x39 x42 (.bool false)) fun x43 =>
        ite' x43
        (K (.bool false))
        (op PR Pn (S.fa 60 x2 1) fun x44 =>
          op PR Pn (S.load 3 x44) fun x45 =>
          op PR Pn (S.bin .gtr 3 (.tmp 45) (.const (.int .i64 8)) x45 (.int .i64 8)) fun x46 =>
          gop PR Pn x46 false (S.fa 29 x3 4) fun x48 =>
          gop PR Pn x46 false (S.load 27 x48) fun x49 =>
          gop PR Pn x46 false (S.bi .len #[27] 3 [false] [x49]) fun x50 =>
          gop PR Pn x46 false (S.bin .eql 3 (.tmp 50) (.const (.int .i64 0)) x50 (.int .i64 0)) fun x51 =>
          op PR Pn (S.pick x46 (.bool true) x51) fun x52 =>
          K x52))))
theorem enter.leatref10_shape {Pn : PK} {K : Value → WP} {a0 a1 : Value} {w : World} (h : W.leatref10_shape Pn K a0 a1 w) : op PR Pn (S.fn F.leatref10_shape [a0, a1]) K w :=
  op_call (first := []) (cap := []) (args := [a0, a1]) Go.Proofs.Try.func41 (by kernel_rfl) rfl (calls_of_denF (args := [a0, a1]) (h := (.s none .n (.s none (.s none .n (.c (.s none .n .n) .n)) (.s none (.s none .n (.c (.s none .n .n) .n)) (.s none (.s none .n (.c (.s none .n .n) .n)) (.s none (.s none .n (.c (.s none .n .n) .n)) (.s none .n .n))))))) mixed Go.Proofs.Try.func41 rfl (by kernel_rfl) (Eq.mp (by kernel_rfl) h))
/-- leat/leatref10.parts: function 42. -/
def W.leatref10_parts (Pn : PK) (K : Value → WP) (a0 a1 a2 : Value) : WP :=
  op PR Pn (S.box 29 a2) fun x5 =>
  op PR Pn (S.fn F.leatref10_Here [a0, a1]) fun x15 =>
  op PR Pn (S.fa 29 x5 4) fun x16 =>
  op PR Pn (S.load 27 x16) fun x17 =>
  op PR Pn (S.bi .len #[27] 3 [false] [x17]) fun x18 =>
  op PR Pn (S.bi .len #[22] 3 [false] [x15]) fun x20 =>
  op PR Pn (S.bin .neq 3 (.tmp 18) (.tmp 20) x18 x20) fun x21 =>
  ite' x21
  (K (.tuple #[(.slice none 0 0), (.int .i64 101)]))
  (op PR Pn (S.bslice 23 0 []) fun x22 =>
    L4 (.slice none 0 0) (.int .i64 0) x22 (.int .i64 0) (fun x6 x7 x9 x10 xk =>
      op PR Pn (S.bi .len #[22] 3 [false] [x15]) fun x25 =>
      op PR Pn (S.bin .lss 3 (.tmp 23) (.tmp 25) x10 x25) fun x26 =>
      ite' x26
      (drawn <|
        lt PR (S.mv x15) fun x30 =>
        lt PR (S.mv x10) fun x31 =>
        lt PR (S.ia 22 x30 x31) fun x32 =>
        lt PR (S.load 60 x32) fun x33 =>
        lt PR (S.mv a1) fun x34 =>
        lt PR (S.fa 29 x5 4) fun x35 =>
        lt PR (S.load 27 x35) fun x36 =>
        lt PR (S.mv x10) fun x37 =>
        lt PR (S.ia 27 x36 x37) fun x38 =>
        lt PR (S.load 29 x38) fun x39 =>
        op PR Pn (S.fn F.leatref10_value [x33, x34, x39]) fun x40 =>
        lt PR (S.mv x40) fun x29 =>
        lt PR (S.ext x29 0) fun x41 =>
        lt PR (S.ext x29 1) fun x42 =>
        lt PR (S.mv x41) fun x11 =>
        lt PR (S.mv x42) fun x12 =>
        op PR Pn (S.bin .neq 3 (.tmp 43) (.const (.int .i64 0)) x12 (.int .i64 0)) fun x44 =>
        ite' x44
        (K (.tuple #[(.slice none 0 0), x12]))
        (op PR Pn (S.fn F.leatref01_Cat [x9, x11]) fun x48 =>
          op PR Pn (S.bin .add 3 (.tmp 27) (.const (.int .i64 1)) x10 (.int .i64 1)) fun x28 =>
          xk x6 x7 x48 x28))
      (K (.tuple #[x9, (.int .i64 0)]))))
theorem enter.leatref10_parts {Pn : PK} {K : Value → WP} {a0 a1 a2 : Value} {w : World} (h : W.leatref10_parts Pn K a0 a1 a2 w) : op PR Pn (S.fn F.leatref10_parts [a0, a1, a2]) K w :=
  op_call (first := []) (cap := []) (args := [a0, a1, a2]) Go.Proofs.Try.func42 (by kernel_rfl) rfl (calls_of_denF (args := [a0, a1, a2]) (h := (.s none .n (.s none .n (.s none (.s none .n (.c (.s none .n .n) .n)) (.s none .n (.s none (.s none .n (.bl (.lp [6, 7, 9, 10] (.s none (.s none .n (.c .n .n)) (.s none (.bl (.s none (.rg (.ev [0, 1, 2, 3, 4, 5, 6, 7, 8, 9] [] (.hv 10 (.ev [11, 12, 13, 14, 15] [] .fin))) [[], [], [0, 1], [0, 1, 2], [], [], [5], [], [5, 6, 7], [5, 6, 7, 8], [0, 1, 2, 3, 4, 5, 6, 7, 8, 9], [0, 1, 2, 3, 4, 5, 6, 7, 8, 9, 10], [0, 1, 2, 3, 4, 5, 6, 7, 8, 9, 10, 11], [0, 1, 2, 3, 4, 5, 6, 7, 8, 9, 10, 11], [0, 1, 2, 3, 4, 5, 6, 7, 8, 9, 10, 11, 12], [0, 1, 2, 3, 4, 5, 6, 7, 8, 9, 10, 11, 12, 13, 14]]) (.s none (.s none .n (.c (.s none .n .n) .n)) .n))) .n))))) (.s none .n .n))))))) mixed Go.Proofs.Try.func42 rfl (by kernel_rfl) (Eq.mp (by kernel_rfl) h))
/-- leat/schema.produce: function 43. -/
def W.schema_produce (Pn : PK) (K : Value → WP) (a0 : Value) : WP :=
  op PR Pn (S.fn F.schema_all [(.string { data := #[105, 110, 100, 101, 120] }), (.int .i64 3), (.slice none 0 0)]) fun x5 =>
  op PR Pn (S.alloc 60) fun x3 =>
  op PR Pn (S.store 60 x3 x5) fun _ =>
  op PR Pn (S.un .not a0) fun x7 =>
  ite' x7
  (drawn <|
    lt PR (S.load 60 x3) fun x11 =>
    op PR Pn (S.fn F.schema_since [(.int .i64 3), (.string { data := #[116, 120, 110] }), (.int .i64 6), (.slice none 0 0)]) fun x8 =>
    rc PR (S.load 60 x3) x11 <|
    op PR Pn (S.fn F.schema_all [(.string { data := #[97, 99, 107, 115] }), (.int .i64 2), (.slice none 0 0)]) fun x9 =>
    rc PR (S.load 60 x3) x11 <|
    op PR Pn (S.fn F.schema_all [(.string { data := #[119, 97, 105, 116] }), (.int .i64 3), (.slice none 0 0)]) fun x10 =>
    rc PR (S.load 60 x3) x11 <|
    op PR Pn (S.fn F.schema_all [(.string { data := #[114, 101, 99, 115] }), (.int .i64 8), (.slice none 0 0)]) fun x12 =>
    rc PR (S.load 60 x3) x11 <|
    op PR Pn (S.bslice 22 2 [(0, x11), (1, x12)]) fun x13 =>
    op PR Pn (S.fn F.schema_topics [x13]) fun x14 =>
    op PR Pn (S.bslice 22 4 [(0, x8), (1, x9), (2, x10), (3, x14)]) fun x15 =>
    lt PR (S.mv x15) fun x2 =>
    K x2)
  (J1 (fun x4 =>
      drawn <|
      lt PR (S.load 60 x4) fun x23 =>
      op PR Pn (S.fn F.schema_since [(.int .i64 1), (.string { data := #[116, 104, 114, 111, 116, 116, 108, 101] }), (.int .i64 3), (.slice none 0 0)]) fun x24 =>
      rc PR (S.load 60 x4) x23 <|
      op PR Pn (S.bslice 22 2 [(0, x23), (1, x24)]) fun x25 =>
      lt PR (S.mv x25) fun x2_1 =>
      K x2_1)
    (fun xk =>
      drawn <|
      lt PR (S.load 60 x3) fun x16 =>
      also
        (op PR Pn (S.fn F.schema_all [(.string { data := #[99, 111, 100, 101] }), (.int .i64 2), (.slice none 0 0)]) fun x17 =>
          rc PR (S.load 60 x3) x16 <|
          also
            (op PR Pn (S.fn F.schema_all [(.string { data := #[98, 97, 115, 101] }), (.int .i64 4), (.slice none 0 0)]) fun x18 =>
              rc PR (S.load 60 x3) x16 <|
              also
                (op PR Pn (S.fn F.schema_since [(.int .i64 2), (.string { data := #[116, 105, 109, 101] }), (.int .i64 4), (.slice none 0 0)]) fun x19 =>
                  rc PR (S.load 60 x3) x16 <|
                  also
                    (op PR Pn (S.fn F.schema_since [(.int .i64 3), (.string { data := #[115, 116, 97, 114, 116] }), (.int .i64 4), (.slice none 0 0)]) fun x20 =>
                      rc PR (S.load 60 x3) x16 <|
                      also
                        (op PR Pn (S.bslice 22 5 [(0, x16), (1, x17), (2, x18), (3, x19), (4, x20)]) fun x21 =>
                          also
                            (op PR Pn (S.fn F.schema_topics [x21]) fun x22 =>
                              op PR Pn (S.alloc 60) fun x4_1 =>
                              op PR Pn (S.store 60 x4_1 x22) fun _ =>
                              xk x4_1)
                            (op PR Pn (S.alloc 60) fun x4_2 =>
                              op PR Pn (S.fn F.schema_topics [x21]) fun x22_1 =>
                              op PR Pn (S.store 60 x4_2 x22_1) fun _ =>
                              xk x4_2))
                        (op PR Pn (S.alloc 60) fun x4_3 =>
                          rc PR (S.load 60 x3) x16 <|
                          op PR Pn (S.bslice 22 5 [(0, x16), (1, x17), (2, x18), (3, x19), (4, x20)]) fun x21_1 =>
                          op PR Pn (S.fn F.schema_topics [x21_1]) fun x22_2 =>
                          op PR Pn (S.store 60 x4_3 x22_2) fun _ =>
                          xk x4_3))
                    (op PR Pn (S.alloc 60) fun x4_4 =>
                      rc PR (S.load 60 x3) x16 <|
                      op PR Pn (S.fn F.schema_since [(.int .i64 3), (.string { data := #[115, 116, 97, 114, 116] }), (.int .i64 4), (.slice none 0 0)]) fun x20_1 =>
                      rc PR (S.load 60 x3) x16 <|
                      op PR Pn (S.bslice 22 5 [(0, x16), (1, x17), (2, x18), (3, x19), (4, x20_1)]) fun x21_2 =>
                      op PR Pn (S.fn F.schema_topics [x21_2]) fun x22_3 =>
                      op PR Pn (S.store 60 x4_4 x22_3) fun _ =>
                      xk x4_4))
                (op PR Pn (S.alloc 60) fun x4_5 =>
                  rc PR (S.load 60 x3) x16 <|
                  op PR Pn (S.fn F.schema_since [(.int .i64 2), (.string { data := #[116, 105, 109, 101] }), (.int .i64 4), (.slice none 0 0)]) fun x19_1 =>
                  rc PR (S.load 60 x3) x16 <|
                  op PR Pn (S.fn F.schema_since [(.int .i64 3), (.string { data := #[115, 116, 97, 114, 116] }), (.int .i64 4), (.slice none 0 0)]) fun x20_2 =>
                  rc PR (S.load 60 x3) x16 <|
                  op PR Pn (S.bslice 22 5 [(0, x16), (1, x17), (2, x18), (3, x19_1), (4, x20_2)]) fun x21_3 =>
                  op PR Pn (S.fn F.schema_topics [x21_3]) fun x22_4 =>
                  op PR Pn (S.store 60 x4_5 x22_4) fun _ =>
                  xk x4_5))
            (op PR Pn (S.alloc 60) fun x4_6 =>
              rc PR (S.load 60 x3) x16 <|
              op PR Pn (S.fn F.schema_all [(.string { data := #[98, 97, 115, 101] }), (.int .i64 4), (.slice none 0 0)]) fun x18_1 =>
              rc PR (S.load 60 x3) x16 <|
              op PR Pn (S.fn F.schema_since [(.int .i64 2), (.string { data := #[116, 105, 109, 101] }), (.int .i64 4), (.slice none 0 0)]) fun x19_2 =>
              rc PR (S.load 60 x3) x16 <|
              op PR Pn (S.fn F.schema_since [(.int .i64 3), (.string { data := #[115, 116, 97, 114, 116] }), (.int .i64 4), (.slice none 0 0)]) fun x20_3 =>
              rc PR (S.load 60 x3) x16 <|
              op PR Pn (S.bslice 22 5 [(0, x16), (1, x17), (2, x18_1), (3, x19_2), (4, x20_3)]) fun x21_4 =>
              op PR Pn (S.fn F.schema_topics [x21_4]) fun x22_5 =>
              op PR Pn (S.store 60 x4_6 x22_5) fun _ =>
              xk x4_6))
        (op PR Pn (S.alloc 60) fun x4_7 =>
          rc PR (S.load 60 x3) x16 <|
          op PR Pn (S.fn F.schema_all [(.string { data := #[99, 111, 100, 101] }), (.int .i64 2), (.slice none 0 0)]) fun x17_1 =>
          rc PR (S.load 60 x3) x16 <|
          op PR Pn (S.fn F.schema_all [(.string { data := #[98, 97, 115, 101] }), (.int .i64 4), (.slice none 0 0)]) fun x18_2 =>
          rc PR (S.load 60 x3) x16 <|
          op PR Pn (S.fn F.schema_since [(.int .i64 2), (.string { data := #[116, 105, 109, 101] }), (.int .i64 4), (.slice none 0 0)]) fun x19_3 =>
          rc PR (S.load 60 x3) x16 <|
          op PR Pn (S.fn F.schema_since [(.int .i64 3), (.string { data := #[115, 116, 97, 114, 116] }), (.int .i64 4), (.slice none 0 0)]) fun x20_4 =>
          rc PR (S.load 60 x3) x16 <|
          op PR Pn (S.bslice 22 5 [(0, x16), (1, x17_1), (2, x18_2), (3, x19_3), (4, x20_4)]) fun x21_5 =>
          op PR Pn (S.fn F.schema_topics [x21_5]) fun x22_6 =>
          op PR Pn (S.store 60 x4_7 x22_6) fun _ =>
          xk x4_7)))
theorem enter.schema_produce {Pn : PK} {K : Value → WP} {a0 : Value} {w : World} (h : W.schema_produce Pn K a0 w) : op PR Pn (S.fn F.schema_produce [a0]) K w :=
  op_call (first := []) (cap := []) (args := [a0]) Go.Proofs.Try.func43 (by kernel_rfl) rfl (calls_of_denF (args := [a0]) (h := (.s none .n (.s none .n (.s none (.s none .n (.c (.s none (.rg (.ev [3] [] (.hv 0 (.ev [] [3] (.hv 1 (.ev [] [3] (.hv 2 (.ev [] [3] (.hv 4 (.ev [] [3] (.hv 5 (.hv 6 (.hv 7 (.ev [8] [] .fin))))))))))))) [[], [0], [0, 1], [], [0, 1, 2], [0, 1, 2, 3, 4], [0, 1, 2, 3, 4, 5], [0, 1, 2, 3, 4, 5, 6], [0, 1, 2, 3, 4, 5, 6, 7]]) .n) .n)) (.s (some [4]) (.rg (.ev [0] [] (.fork (.hv 1 (.ev [] [0] (.fork (.hv 2 (.ev [] [0] (.fork (.hv 3 (.ev [] [0] (.fork (.hv 4 (.ev [] [0] (.fork (.hv 5 (.fork (.hv 6 (.hv 7 (.hv 8 .fin))) (.hv 7 (.hv 6 (.hv 8 .fin))))) (.hv 7 (.ev [] [0] (.hv 5 (.hv 6 (.hv 8 .fin)))))))) (.hv 7 (.ev [] [0] (.hv 4 (.ev [] [0] (.hv 5 (.hv 6 (.hv 8 .fin)))))))))) (.hv 7 (.ev [] [0] (.hv 3 (.ev [] [0] (.hv 4 (.ev [] [0] (.hv 5 (.hv 6 (.hv 8 .fin)))))))))))) (.hv 7 (.ev [] [0] (.hv 2 (.ev [] [0] (.hv 3 (.ev [] [0] (.hv 4 (.ev [] [0] (.hv 5 (.hv 6 (.hv 8 .fin)))))))))))))) (.hv 7 (.ev [] [0] (.hv 1 (.ev [] [0] (.hv 2 (.ev [] [0] (.hv 3 (.ev [] [0] (.hv 4 (.ev [] [0] (.hv 5 (.hv 6 (.hv 8 .fin))))))))))))))) [[], [], [1], [1, 2], [1, 2, 3], [0, 1, 2, 3, 4], [0, 1, 2, 3, 4, 5], [], [0, 1, 2, 3, 4, 5, 6, 7]]) (.s none (.rg (.ev [0] [] (.hv 1 (.ev [] [0] (.hv 2 (.ev [3] [] .fin))))) [[], [], [0, 1], [0, 1, 2]]) .n)))))) mixed Go.Proofs.Try.func43 rfl (by kernel_rfl) (Eq.mp (by kernel_rfl) h))
end Go.Lt
