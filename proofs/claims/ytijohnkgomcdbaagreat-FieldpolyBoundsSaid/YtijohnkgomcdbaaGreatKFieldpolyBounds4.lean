/- Part of the proof of the statement FieldpolyBounds: lemmas on the model's steps, Lean functions that say what the program's functions compute, and proofs that the calls do just that. No hypothesis is added. -/
import Derived.Test.YtijohnkgomcdbaaGreatKFieldpolyBounds3
set_option linter.all false
set_option maxRecDepth 100000
namespace Go.Proofs.YtijohnkgomcdbaaGreatV
open Go Go.RowKit YtijohnkgomcdbaaGreat YtijohnkgomcdbaaGreatE YtijohnkgomcdbaaGreatW.PrintWords YtijohnkgomcdbaaGreatW.PrintLast YtijohnkgomcdbaaGreatW.PrintMore
mutual
noncomputable def GX280l0:Nat→(List Int)→Int→Int→Int→Int→(List Int)→Option R280
 |0,_,_,_,_,_,_=>none
 |k+1,x1,x5,x6,x7,x8,y0=>B280l0 (GX280l0 k) (GX280l1 k) (FX246 k) (FX247 k) x1 x5 x6 x7 x8 y0
noncomputable def GX280l1:Nat→(List Int)→Int→Int→Int→Int→Int→Int→(List Int)→Option R280
 |0,_,_,_,_,_,_,_,_=>none
 |k+1,x1,x5,x6,x11,x12,x104,x105,y0=>B280l1 (GX280l1 k) (GX280l2 k) (FX246 k) (FX247 k) (FX248 k) x1 x5 x6 x11 x12 x104 x105 y0
noncomputable def GX280l2:Nat→(List Int)→Int→Int→Int→Int→Int→(List Int)→Option R280
 |0,_,_,_,_,_,_,_=>none
 |k+1,x1,x5,x6,x17,x156,x157,y0=>B280l2 (GX280l2 k) (FX247 k) x1 x5 x6 x17 x156 x157 y0
end
noncomputable abbrev FX280 (k:Nat) (x1:(List Int)) (y0:(List Int)):Option R280:=B280 (GX280l0 k) (FX247 k) (FX277 k) x1 y0
mutual
noncomputable def GX244l0:Nat→(List Int)→(List Int)→Int→Int→(List Int)→Option R244
 |0,_,_,_,_,_=>none
 |k+1,x0,x1,x7,x8,x6=>B244l0 (GX244l0 k) (FX245 k) (FX277 k) x0 x1 x7 x8 x6
noncomputable def GX244l1:Nat→Int→(List Int)→Int→Int→(List Int)→(List Int)→Option R244
 |0,_,_,_,_,_,_=>none
 |k+1,x9,x10,x12,x14,x11,x13=>B244l1 (GX244l1 k) (GX244l2 k) (FX280 k) x9 x10 x12 x14 x11 x13
noncomputable def GX244l2:Nat→Int→Int→Int→Int→(List Int)→(List Int)→Option R244
 |0,_,_,_,_,_,_=>none
 |k+1,x9,x12,x96,x97,x11,x13=>B244l2 (GX244l2 k) (FX245 k) x9 x12 x96 x97 x11 x13
end
noncomputable abbrev FX244 (k:Nat) (x0:(List Int)) (x1:(List Int)):Option R244:=B244 (GX244l0 k) (GX244l1 k) (FX245 k) (FX276 k) (FX278 k) (FX279 k) x0 x1
noncomputable def GX215l0:Nat→(List Int)→(List Int)→Option R215
 |0,_,_=>none
 |k+1,x5,x6=>B215l0 (GX215l0 k) (FX223 k) (FX244 k) x5 x6
noncomputable abbrev FX215 (k:Nat) (x0:ByteArray) (x1:ByteArray):Option R215:=B215 (GX215l0 k) (FX225 k) x0 x1
noncomputable abbrev FX172 (k:Nat) (x0:TQ):Option R172:=B172 (FX213 k) (FX214 k) (FX215 k) x0
noncomputable def GX120l0:Nat→(List TQ)→(List TQ)→Int→Int→Option R120
 |0,_,_,_,_=>none
 |k+1,x0,x9,x10,x11=>B120l0 (GX120l0 k) (FX152 k) (FX172 k) x0 x9 x10 x11
noncomputable abbrev FX120 (k:Nat) (x0:(List TQ)):Option R120:=B120 (GX120l0 k) x0
noncomputable abbrev FX171 (k:Nat) (x0:TQ):Option R171:=B171 x0
noncomputable abbrev FX170 (k:Nat) (x0:TQ):Option R170:=B170 (FX171 k) x0
noncomputable def GX194Forml0:Nat→(List TQ)→Int→Int→Option R194Form
 |0,_,_,_=>none
 |k+1,x0,x7,x8=>B194Forml0 (GX194Forml0 k) (FX170 k) x0 x7 x8
noncomputable abbrev FX194Form (k:Nat) (x0:(List TQ)):Option R194Form:=B194Form (GX194Forml0 k) x0
noncomputable abbrev FX153Form (k:Nat) (x0:(List TQ)):Option R153Form:=B153Form (FX194Form k) x0
noncomputable abbrev FX119 (k:Nat) (x0:(List TQ)):Option R119:=B119 (FX89 k) (FX120 k) (FX153Form k) x0
noncomputable abbrev FX124 (k:Nat) (x0:(List TQ)) (x1:(List TQ)):Option R124:=B124 (FX120 k) x0 x1
noncomputable def GX138l0:Nat→(List (List TQ))→(List (List TQ))→Int→Int→(List TQ)→Option R138
 |0,_,_,_,_,_=>none
 |k+1,x1,x11,x12,x13,x2=>B138l0 (GX138l0 k) (FX124 k) x1 x11 x12 x13 x2
noncomputable abbrev FX138 (k:Nat) (x0:(List TQ)) (x1:(List (List TQ))):Option R138:=B138 (GX138l0 k) x0 x1
noncomputable def GX83l0:Nat→(List (List (List TQ)))→Int→Int→(List TQ)→Option R83
 |0,_,_,_,_=>none
 |k+1,x14,x15,x16,x2=>B83l0 (GX83l0 k) (FX138 k) x14 x15 x16 x2
noncomputable abbrev FX83 (k:Nat) (x0:(List TQ)) (x1:(List (List (List TQ)))):Option R83:=B83 (GX83l0 k) (FX119 k) x0 x1
mutual
noncomputable def GX224l0:Nat→(List Int)→(List Int)→Int→Int→(List Int)→Option R224
 |0,_,_,_,_,_=>none
 |k+1,x1,x20,x21,x22,x5=>B224l0 (GX224l1 k) (FX245 k) x1 x20 x21 x22 x5
noncomputable def GX224l1:Nat→(List Int)→Int→Int→Int→(List Int)→Int→Int→(List Int)→Int→Int→(List Int)→Option R224
 |0,_,_,_,_,_,_,_,_,_,_,_=>none
 |k+1,x1,x6,x7,x8,x20,x21,x22,x27,x28,x29,x5=>B224l1 (GX224l0 k) (GX224l1 k) (FX246 k) (FX247 k) x1 x6 x7 x8 x20 x21 x22 x27 x28 x29 x5
end
noncomputable abbrev FX224 (k:Nat) (x0:(List Int)) (x1:(List Int)):Option R224:=B224 (GX224l0 k) x0 x1
noncomputable abbrev FX186 (k:Nat) (x0:ByteArray) (x1:ByteArray):Option R186:=B186 (FX223 k) (FX224 k) (FX225 k) x0 x1
noncomputable abbrev FX192 (k:Nat) (x0:Bool) (x1:ByteArray):Option R192:=B192 x0 x1
noncomputable abbrev FX184 (k:Nat) (x0:TI) (x1:TI):Option R184:=B184 (FX186 k) (FX192 k) x0 x1
noncomputable abbrev FX222 (k:Nat) (x0:ByteArray) (x1:ByteArray):Option R222:=B222 (FX223 k) (FX225 k) (FX244 k) x0 x1
noncomputable abbrev FX185 (k:Nat) (x0:TI) (x1:TI):Option R185:=B185 (FX192 k) (FX215 k) (FX222 k) x0 x1
noncomputable abbrev FX142 (k:Nat) (x0:TQ) (x1:TQ):Option R142:=B142 (FX149 k) (FX184 k) (FX185 k) (FX186 k) x0 x1
noncomputable def GX188l0:Nat→Int→(List Int)→(List Int)→Option R188
 |0,_,_,_=>none
 |k+1,x1,x5,x6=>B188l0 (GX188l0 k) (FX223 k) (FX224 k) x1 x5 x6
noncomputable abbrev FX188 (k:Nat) (x0:ByteArray) (x1:Int):Option R188:=B188 (GX188l0 k) (FX225 k) x0 x1
noncomputable abbrev FX187 (k:Nat) (x0:TI) (x1:Int):Option R187:=B187 (FX188 k) (FX192 k) x0 x1
noncomputable abbrev FX143 (k:Nat) (x0:TQ) (x1:Int):Option R143:=B143 (FX187 k) (FX188 k) x0 x1
noncomputable abbrev FX190 (k:Nat) (x0:TI):Option R190:=B190 (FX192 k) x0
noncomputable abbrev FX145 (k:Nat) (x0:TQ):Option R145:=B145 (FX190 k) x0
noncomputable def GX226l0:Nat→Int→Int→Int→(List Int)→(List Int)→(List Int)→Option R226
 |0,_,_,_,_,_,_=>none
 |k+1,x8,x27,x28,x5,x6,x7=>B226l0 (GX226l0 k) (FX223 k) (FX247 k) x8 x27 x28 x5 x6 x7
noncomputable abbrev FX226 (k:Nat) (x0:ByteArray) (x1:ByteArray):Option R226:=B226 (GX226l0 k) (FX225 k) x0 x1
noncomputable abbrev FX227 (k:Nat) (x0:ByteArray) (x1:ByteArray):Option R227:=B227 x0 x1
noncomputable def GX228l0:Nat→Int→Int→Int→(List Int)→(List Int)→Option R228
 |0,_,_,_,_,_=>none
 |k+1,x7,x15,x16,x5,x6=>B228l0 (GX228l0 k) (FX223 k) (FX248 k) x7 x15 x16 x5 x6
noncomputable abbrev FX228 (k:Nat) (x0:ByteArray) (x1:ByteArray):Option R228:=B228 (GX228l0 k) (FX225 k) x0 x1
noncomputable abbrev FX191 (k:Nat) (x0:TI) (x1:TI):Option R191:=B191 (FX192 k) (FX226 k) (FX227 k) (FX228 k) x0 x1
noncomputable abbrev FX148 (k:Nat) (x0:TQ) (x1:TQ):Option R148:=B148 (FX149 k) (FX185 k) (FX186 k) (FX191 k) (FX192 k) x0 x1
noncomputable abbrev FX88 (k:Nat) (x0:TQ) (x1:TQ):Option R88:=B88 (FX145 k) (FX148 k) x0 x1
noncomputable def GX92l0:Nat→(List TQ)→Int→Option R92
 |0,_,_=>none
 |k+1,x0,x3=>B92l0 (GX92l0 k) (FX152 k) x0 x3
noncomputable abbrev FX92 (k:Nat) (x0:(List TQ)):Option R92:=B92 (GX92l0 k) x0
noncomputable abbrev FX147 (k:Nat) (x0:TQ):Option R147:=B147 x0
noncomputable abbrev FX189n (k:Nat) (x0:(List TQ)):Option R189n:=B189n x0
noncomputable abbrev FX189m (k:Nat) (x0:(List TQ)):Option R189m:=B189m x0
mutual
noncomputable def GX144l0:Nat→(List TQ)→(List TQ)→Int→Int→Int→(List TQ)→(List TQ)→Option R144
 |0,_,_,_,_,_,_,_=>none
 |k+1,x0,x1,x7,x30,x31,x6,x8=>B144l0 (GX144l0 k) (GX144l1 k) (FX89 k) (FX147 k) x0 x1 x7 x30 x31 x6 x8
noncomputable def GX144l1:Nat→(List TQ)→Int→Int→(List TQ)→(List TQ)→TQ→Option R144
 |0,_,_,_,_,_,_=>none
 |k+1,x1,x7,x11,x6,x8,x10=>B144l1 (GX144l1 k) (GX144l2 k) (FX92 k) (FX142 k) (FX152 k) x1 x7 x11 x6 x8 x10
noncomputable def GX144l2:Nat→(List TQ)→Int→Int→Int→Int→(List TQ)→(List TQ)→TQ→TQ→Option R144
 |0,_,_,_,_,_,_,_,_,_=>none
 |k+1,x1,x7,x11,x69,x70,x6,x8,x10,x12=>B144l2 (GX144l1 k) (GX144l2 k) (FX88 k) (FX142 k) x1 x7 x11 x69 x70 x6 x8 x10 x12
end
noncomputable abbrev FX144 (k:Nat) (x0:(List TQ)) (x1:(List TQ)):Option R144:=B144 (GX144l0 k) (FX189 k) x0 x1
noncomputable def GX84l0:Nat→(List TQ)→(List TQ)→TQ→TQ→Option R84
 |0,_,_,_,_=>none
 |k+1,x0,x1,x4,x5=>B84l0 (GX84l0 k) (FX89 k) (FX142 k) (FX143 k) (FX144 k) (FX145 k) x0 x1 x4 x5
noncomputable abbrev FX84 (k:Nat) (x0:(List TQ)) (x1:(List TQ)):Option R84:=B84 (GX84l0 k) (FX89 k) x0 x1
noncomputable abbrev FX151 (k:Nat) (x0:(List TQ)) (x1:Int):Option R151:=B151 (FX89 k) x0 x1
noncomputable def GX90l0:Nat→(List TQ)→(List TQ)→Int→Int→(List TQ)→Option R90
 |0,_,_,_,_,_=>none
 |k+1,x0,x1,x14,x15,x5=>B90l0 (GX90l0 k) (FX92 k) (FX148 k) (FX151 k) x0 x1 x14 x15 x5
noncomputable abbrev FX90 (k:Nat) (x0:(List TQ)) (x1:(List TQ)):Option R90:=B90 (GX90l0 k) x0 x1
mutual
noncomputable def GX91l0:Nat→(List TQ)→(List TQ)→Int→Int→(List TQ)→Option R91
 |0,_,_,_,_,_=>none
 |k+1,x0,x1,x27,x28,x5=>B91l0 (GX91l0 k) (GX91l1 k) (FX89 k) x0 x1 x27 x28 x5
noncomputable def GX91l1:Nat→(List TQ)→(List TQ)→Int→Int→(List TQ)→Option R91
 |0,_,_,_,_,_=>none
 |k+1,x1,x36,x37,x38,x5=>B91l1 (GX91l1 k) (GX91l2 k) (FX92 k) (FX152 k) x1 x36 x37 x38 x5
noncomputable def GX91l2:Nat→(List TQ)→Int→(List TQ)→Int→Int→(List TQ)→Int→Int→(List TQ)→TQ→Option R91
 |0,_,_,_,_,_,_,_,_,_,_=>none
 |k+1,x1,x7,x36,x37,x38,x45,x46,x47,x5,x8=>B91l2 (GX91l1 k) (GX91l2 k) (FX142 k) (FX148 k) x1 x7 x36 x37 x38 x45 x46 x47 x5 x8
end
noncomputable abbrev FX91 (k:Nat) (x0:(List TQ)) (x1:(List TQ)):Option R91:=B91 (GX91l0 k) x0 x1
noncomputable abbrev FX165 (k:Nat) (x0:(List TQ)) (x1:(List TQ)):Option R165:=B165 (FX144 k) x0 x1
noncomputable abbrev FX146 (k:Nat) (x0:(List TQ)) (x1:(List TQ)) (x2:(List TQ)):Option R146:=B146 (FX91 k) (FX165 k) x0 x1 x2
noncomputable def GX85l0:Nat→(List (List TQ))→(List TQ)→(List TQ)→Int→(List TQ)→Option R85
 |0,_,_,_,_,_=>none
 |k+1,x1,x2,x7,x8,x3=>B85l0 (GX85l0 k) (FX90 k) (FX146 k) x1 x2 x7 x8 x3
noncomputable abbrev FX85 (k:Nat) (x0:(List TQ)) (x1:(List (List TQ))) (x2:(List TQ)):Option R85:=B85 (GX85l0 k) x0 x1 x2
noncomputable def GX86l0:Nat→(List Int)→Int→Int→(List TQ)→Option R86
 |0,_,_,_,_=>none
 |k+1,x9,x10,x11,x3=>B86l0 (GX86l0 k) (FX89 k) (FX92 k) x9 x10 x11 x3
noncomputable abbrev FX86 (k:Nat) (x0:(List Int)):Option R86:=B86 (GX86l0 k) x0
noncomputable abbrev FX87 (k:Nat) (x0:TQ) (x1:TQ):Option R87:=B87 (FX142 k) (FX147 k) x0 x1
noncomputable abbrev FX154 (k:Nat) (x0:TQ):Option R154:=B154 x0
noncomputable def GX194Largel0:Nat→(List TQ)→Int→Int→Option R194Large
 |0,_,_,_=>none
 |k+1,x0,x7,x8=>B194Largel0 (GX194Largel0 k) (FX154 k) x0 x7 x8
noncomputable abbrev FX194Large (k:Nat) (x0:(List TQ)):Option R194Large:=B194Large (GX194Largel0 k) x0
noncomputable abbrev FX153Large (k:Nat) (x0:(List TQ)):Option R153Large:=B153Large (FX194Large k) x0
noncomputable abbrev FX93 (k:Nat) (x0:(List TQ)):Option R93:=B93 (FX153Large k) x0
mutual
noncomputable def GX17l0:Nat→(List (List TQ))→Int→Int→Int→(List TQ)→(List TQ)→Option R17
 |0,_,_,_,_,_,_=>none
 |k+1,x1,x7,x38,x39,x2,x8=>B17l0 (GX17l0 k) (GX17l1 k) (FX84 k) (FX85 k) (FX86 k) x1 x7 x38 x39 x2 x8
noncomputable def GX17l1:Nat→Int→Int→(List TQ)→Option R17
 |0,_,_,_=>none
 |k+1,x7,x10,x8=>B17l1 (GX17l2 k) (GX17l3 k) x7 x10 x8
noncomputable def GX17l2:Nat→Int→Int→Int→(List TQ)→Option R17
 |0,_,_,_,_=>none
 |k+1,x7,x10,x11,x8=>B17l2 (GX17l1 k) (GX17l2 k) (FX87 k) (FX88 k) (FX89 k) x7 x10 x11 x8
noncomputable def GX17l3:Nat→(List TQ)→Int→(List TQ)→Option R17
 |0,_,_,_=>none
 |k+1,x12,x13,x8=>B17l3 (GX17l3 k) (FX86 k) (FX90 k) (FX91 k) (FX92 k) (FX93 k) x12 x13 x8
end
noncomputable abbrev FX17 (k:Nat) (x0:(List TQ)) (x1:(List (List TQ))):Option R17:=B17 (GX17l0 k) (FX83 k) x0 x1
noncomputable def GX18l0:Nat→(List TQ)→(List TQ)→Int→Int→Option R18
 |0,_,_,_,_=>none
 |k+1,x0,x1,x12,x13=>B18l0 (GX18l0 k) x0 x1 x12 x13
noncomputable abbrev FX18 (k:Nat) (x0:(List TQ)) (x1:(List TQ)):Option R18:=B18 (GX18l0 k) x0 x1
noncomputable abbrev FX173 (k:Nat) (x0:TI):Option R173:=B173 x0
noncomputable abbrev FX123 (k:Nat) (x0:TQ):Option R123:=B123 (FX173 k) x0
noncomputable def GX48l0:Nat→(List TQ)→Int→Option R48
 |0,_,_=>none
 |k+1,x0,x3=>B48l0 (GX48l0 k) (FX123 k) x0 x3
noncomputable abbrev FX48 (k:Nat) (x0:(List TQ)):Option R48:=B48 (GX48l0 k) x0
mutual
noncomputable def GX221l0:Nat→(List Int)→Int→(List Int)→Option R221
 |0,_,_,_=>none
 |k+1,x0,x4,x3=>B221l0 (GX221l1 k) x0 x4 x3
noncomputable def GX221l1:Nat→(List Int)→Int→Int→(List Int)→Option R221
 |0,_,_,_,_=>none
 |k+1,x0,x4,x5,x3=>B221l1 (GX221l0 k) (GX221l1 k) x0 x4 x5 x3
end
noncomputable abbrev FX221 (k:Nat) (x0:(List Int)):Option R221:=B221 (GX221l0 k) x0
noncomputable abbrev FX183 (k:Nat) (x0:Int):Option R183:=B183 (FX221 k) x0
noncomputable abbrev FX141 (k:Nat) (x0:Int):Option R141:=B141 (FX183 k) x0
noncomputable abbrev FX81 (k:Nat) (x0:Int):Option R81:=B81 (FX141 k) x0
noncomputable def GX22l0:Nat→(List Int)→Int→Int→(List TQ)→Option R22
 |0,_,_,_,_=>none
 |k+1,x6,x7,x8,x3=>B22l0 (GX22l0 k) (FX48 k) (FX81 k) x6 x7 x8 x3
noncomputable abbrev FX22 (k:Nat) (x0:(List Int)):Option R22:=B22 (GX22l0 k) x0
noncomputable def GX137l0:Nat→(List TQ)→Int→Int→TQ→(List TQ)→Option R137
 |0,_,_,_,_,_=>none
 |k+1,x11,x12,x13,x3,x5=>B137l0 (GX137l0 k) (FX92 k) (FX142 k) x11 x12 x13 x3 x5
noncomputable abbrev FX137 (k:Nat) (x0:(List TQ)) (x1:TQ):Option R137:=B137 (GX137l0 k) x0 x1
noncomputable def GX166l0:Nat→(List TQ)→(List TQ)→Int→Int→(List TQ)→Option R166
 |0,_,_,_,_,_=>none
 |k+1,x0,x1,x14,x15,x5=>B166l0 (GX166l0 k) (FX88 k) (FX92 k) (FX151 k) x0 x1 x14 x15 x5
noncomputable abbrev FX166 (k:Nat) (x0:(List TQ)) (x1:(List TQ)):Option R166:=B166 (GX166l0 k) x0 x1
noncomputable def GX106l0:Nat→(List TQ)→(List TQ)→(List TQ)→(List TQ)→(List TQ)→Option R106
 |0,_,_,_,_,_=>none
 |k+1,x0,x6,x7,x8,x9=>B106l0 (GX106l0 k) (FX91 k) (FX137 k) (FX144 k) (FX147 k) (FX165 k) (FX166 k) x0 x6 x7 x8 x9
noncomputable abbrev FX106 (k:Nat) (x0:(List TQ)) (x1:(List TQ)):Option R106:=B106 (GX106l0 k) (FX86 k) (FX165 k) x0 x1
noncomputable def GX122l0:Nat→(List (List TQ))→Int→Option R122
 |0,_,_=>none
 |k+1,x0,x3=>B122l0 (GX122l0 k) x0 x3
noncomputable abbrev FX122 (k:Nat) (x0:(List (List TQ))):Option R122:=B122 (GX122l0 k) x0
mutual
noncomputable def GX107l0:Nat→(List (List TQ))→(List TQ)→Int→Int→(List TQ)→(List (List TQ))→(List (List TQ))→Option R107
 |0,_,_,_,_,_,_,_=>none
 |k+1,x2,x3,x11,x13,x4,x10,x12=>B107l0 (GX107l0 k) (GX107l1 k) (FX122 k) (FX146 k) x2 x3 x11 x13 x4 x10 x12
noncomputable def GX107l1:Nat→(List (List TQ))→(List TQ)→Int→Int→(List TQ)→Int→Int→(List TQ)→(List (List TQ))→(List (List TQ))→Option R107
 |0,_,_,_,_,_,_,_,_,_,_=>none
 |k+1,x2,x3,x11,x13,x14,x60,x61,x4,x10,x12=>B107l1 (GX107l0 k) (GX107l1 k) (FX146 k) (FX166 k) x2 x3 x11 x13 x14 x60 x61 x4 x10 x12
end
noncomputable abbrev FX107 (k:Nat) (x0:(List TQ)) (x1:(List (List TQ))) (x2:(List (List TQ))) (x3:(List TQ)):Option R107:=B107 (GX107l0 k) (FX122 k) x0 x1 x2 x3
noncomputable abbrev FX176 (k:Nat) (x0:(List TQ)):Option R176:=B176 (FX153Large k) x0
noncomputable def GX216Largel0:Nat→(List (List TQ))→Int→Int→Option R216Large
 |0,_,_,_=>none
 |k+1,x0,x7,x8=>B216Largel0 (GX216Largel0 k) (FX176 k) x0 x7 x8
noncomputable abbrev FX216Large (k:Nat) (x0:(List (List TQ))):Option R216Large:=B216Large (GX216Largel0 k) x0
noncomputable abbrev FX175Large (k:Nat) (x0:(List (List TQ))):Option R175Large:=B175Large (FX216Large k) x0
noncomputable abbrev FX128 (k:Nat) (x0:(List (List TQ))):Option R128:=B128 (FX175Large k) x0
noncomputable abbrev FX108 (k:Nat) (x0:(List (List TQ))):Option R108:=B108 (FX128 k) x0
noncomputable abbrev FX28 (k:Nat) (x0:(List TQ)) (x1:(List (List TQ))) (x2:(List (List TQ))):Option R28:=B28 (FX83 k) (FX106 k) (FX107 k) (FX108 k) x0 x1 x2
noncomputable def GX29l0:Nat→(List (List TQ))→(List (List TQ))→Int→Int→Option R29
 |0,_,_,_,_=>none
 |k+1,x0,x1,x12,x13=>B29l0 (GX29l0 k) (FX18 k) x0 x1 x12 x13
noncomputable abbrev FX29 (k:Nat) (x0:(List (List TQ))) (x1:(List (List TQ))):Option R29:=B29 (GX29l0 k) x0 x1
noncomputable def GX131l0:Nat→(List TQ)→(List (List TQ))→Int→Int→(List TQ)→(List (List TQ))→Option R131
 |0,_,_,_,_,_,_=>none
 |k+1,x2,x13,x14,x15,x3,x7=>B131l0 (GX131l0 k) (FX122 k) (FX146 k) x2 x13 x14 x15 x3 x7
noncomputable abbrev FX131 (k:Nat) (x0:(List TQ)) (x1:(List (List TQ))) (x2:(List TQ)):Option R131:=B131 (GX131l0 k) x0 x1 x2
noncomputable abbrev FX110 (k:Nat) (x0:(List TQ)) (x1:(List (List TQ))):Option R110:=B110 (FX106 k) (FX131 k) x0 x1
noncomputable abbrev FX112 (k:Nat) (x0:(List (List TQ))):Option R112:=B112 x0
noncomputable abbrev FX111Gcd (k:Nat) (x0:((List (List TQ))×Unit)):Option R111Gcd:=B111Gcd (FX108 k) (FX112 k) x0
noncomputable def GX31l0:Nat→(List TQ)→((List (List TQ))×(List (List TQ)))→Option R31
 |0,_,_=>none
 |k+1,x3,x9=>B31l0 (GX31l0 k) (FX86 k) (FX107 k) (FX110 k) (FX111Gcd k) x3 x9
noncomputable abbrev FX31 (k:Nat) (x0:(List TQ)) (x1:(List (List TQ))) (x2:(List (List TQ))):Option R31:=B31 (GX31l0 k) (FX83 k) x0 x1 x2
noncomputable abbrev FX174 (k:Nat) (x0:(List (List TQ))) (x1:Int):Option R174:=B174 x0 x1
noncomputable def GX126l0:Nat→(List (List TQ))→(List (List TQ))→Int→Int→(List (List TQ))→Option R126
 |0,_,_,_,_,_=>none
 |k+1,x0,x1,x14,x15,x5=>B126l0 (GX126l0 k) (FX90 k) (FX122 k) (FX174 k) x0 x1 x14 x15 x5
noncomputable abbrev FX126 (k:Nat) (x0:(List (List TQ))) (x1:(List (List TQ))):Option R126:=B126 (GX126l0 k) x0 x1
mutual
noncomputable def GX127l0:Nat→(List (List TQ))→(List (List TQ))→Int→Int→(List TQ)→(List (List TQ))→Option R127
 |0,_,_,_,_,_,_=>none
 |k+1,x2,x28,x29,x30,x3,x7=>B127l0 (GX127l1 k) (GX127l2 k) x2 x28 x29 x30 x3 x7
noncomputable def GX127l1:Nat→(List (List TQ))→Int→(List TQ)→(List (List TQ))→Int→Int→(List (List TQ))→Int→Int→(List TQ)→(List (List TQ))→Option R127
 |0,_,_,_,_,_,_,_,_,_,_,_=>none
 |k+1,x2,x8,x9,x28,x29,x30,x35,x36,x37,x3,x7=>B127l1 (GX127l0 k) (GX127l1 k) (FX90 k) (FX91 k) x2 x8 x9 x28 x29 x30 x35 x36 x37 x3 x7
noncomputable def GX127l2:Nat→Int→Int→(List TQ)→(List (List TQ))→Option R127
 |0,_,_,_,_=>none
 |k+1,x60,x61,x3,x7=>B127l2 (GX127l2 k) (FX122 k) (FX165 k) x60 x61 x3 x7
end
noncomputable abbrev FX127 (k:Nat) (x0:(List TQ)) (x1:(List (List TQ))) (x2:(List (List TQ))):Option R127:=B127 (GX127l0 k) x0 x1 x2
noncomputable def GX125l0:Nat→(List (List TQ))→(List TQ)→(List (List TQ))→(List (List TQ))→Int→Option R125
 |0,_,_,_,_,_=>none
 |k+1,x1,x2,x4,x5,x6=>B125l0 (GX125l0 k) (FX122 k) (FX126 k) (FX127 k) x1 x2 x4 x5 x6
noncomputable abbrev FX125 (k:Nat) (x0:(List TQ)) (x1:(List (List TQ))) (x2:(List TQ)):Option R125:=B125 (GX125l0 k) (FX86 k) (FX122 k) x0 x1 x2
noncomputable abbrev FX111Shift (k:Nat) (x0:((List TQ)×(List (List TQ))×(List TQ)×Unit)):Option R111Shift:=B111Shift (FX108 k) (FX125 k) x0
noncomputable abbrev FX50 (k:Nat) (x0:(List TQ)) (x1:(List (List TQ))) (x2:(List TQ)):Option R50:=B50 (FX83 k) (FX111Shift k) (FX124 k) x0 x1 x2
noncomputable abbrev FX16 (k:Nat):Option R16:=B16 (FX17 k) (FX18 k) (FX22 k) (FX28 k) (FX29 k) (FX31 k) (FX50 k)
noncomputable abbrev FX159 (k:Nat) (x0:TI):Option R159:=B159 x0
noncomputable abbrev FX198 (k:Nat) (x0:Bool) (x1:ByteArray):Option R198:=B198 x0 x1
noncomputable def GX249l0:Nat→Int→(List Int)→Option R249
 |0,_,_=>none
 |k+1,x0,y0=>B249l0 (GX249l0 k) x0 y0
noncomputable abbrev FX249 (k:Nat) (y0:(List Int)):Option R249:=B249 (GX249l0 k) y0
mutual
noncomputable def GX229l0:Nat→ByteArray→Int→(List Int)→Option R229
 |0,_,_,_=>none
 |k+1,x0,x4,x3=>B229l0 (GX229l1 k) (FX249 k) x0 x4 x3
noncomputable def GX229l1:Nat→ByteArray→Int→Int→Int→(List Int)→Option R229
 |0,_,_,_,_,_=>none
 |k+1,x0,x4,x5,x6,x3=>B229l1 (GX229l0 k) (GX229l1 k) x0 x4 x5 x6 x3
end
noncomputable abbrev FX229 (k:Nat) (x0:ByteArray):Option R229:=B229 (GX229l0 k) x0
noncomputable def GX199l0:Nat→Int→Int→(List Int)→(List Int)→(List Int)→Option R199
 |0,_,_,_,_,_=>none
 |k+1,x8,x9,x5,x6,x7=>B199l0 (GX199l0 k) (FX221 k) x8 x9 x5 x6 x7
noncomputable abbrev FX199 (k:Nat) (x0:ByteArray) (x1:ByteArray):Option R199:=B199 (GX199l0 k) (FX229 k) x0 x1
noncomputable abbrev FX200 (k:Nat) (x0:ByteArray) (x1:ByteArray):Option R200:=B200 x0 x1
noncomputable def GX201l0:Nat→Int→Int→(List Int)→(List Int)→Option R201
 |0,_,_,_,_=>none
 |k+1,x7,x8,x5,x6=>B201l0 (GX201l0 k) (FX221 k) x7 x8 x5 x6
noncomputable abbrev FX201 (k:Nat) (x0:ByteArray) (x1:ByteArray):Option R201:=B201 (GX201l0 k) (FX200 k) (FX229 k) x0 x1
noncomputable abbrev FX160 (k:Nat) (x0:TI) (x1:TI):Option R160:=B160 (FX198 k) (FX199 k) (FX200 k) (FX201 k) x0 x1
mutual
noncomputable def GX202l0:Nat→Int→(List Int)→(List Int)→(List Int)→Option R202
 |0,_,_,_,_=>none
 |k+1,x8,x5,x6,x7=>B202l0 (GX202l1 k) (FX221 k) x8 x5 x6 x7
noncomputable def GX202l1:Nat→Int→Int→Int→(List Int)→(List Int)→(List Int)→Option R202
 |0,_,_,_,_,_,_=>none
 |k+1,x8,x9,x10,x5,x6,x7=>B202l1 (GX202l0 k) (GX202l1 k) x8 x9 x10 x5 x6 x7
end
noncomputable abbrev FX202 (k:Nat) (x0:ByteArray) (x1:ByteArray):Option R202:=B202 (GX202l0 k) (FX229 k) x0 x1
noncomputable abbrev FX161 (k:Nat) (x0:TI) (x1:TI):Option R161:=B161 (FX198 k) (FX202 k) x0 x1
noncomputable abbrev FX162 (k:Nat) (x0:TQ):Option R162:=B162 x0
noncomputable def GX230l0:Nat→Int→(List Int)→Int→(List Int)→Option R230
 |0,_,_,_,_=>none
 |k+1,x0,x1,x5,y0=>B230l0 (GX230l0 k) x0 x1 x5 y0
noncomputable abbrev FX230 (k:Nat) (x1:(List Int)) (y0:(List Int)):Option R230:=B230 (GX230l0 k) (FX249 k) x1 y0
mutual
noncomputable def GX203l0:Nat→(List Int)→Int→Int→(List Int)→(List Int)→Option R203
 |0,_,_,_,_,_=>none
 |k+1,x7,x8,x11,x9,x10=>B203l0 (GX203l1 k) (FX221 k) x7 x8 x11 x9 x10
noncomputable def GX203l1:Nat→(List Int)→Int→Int→(List Int)→(List Int)→Option R203
 |0,_,_,_,_,_=>none
 |k+1,x7,x8,x11,x9,x10=>B203l1 (GX203l0 k) (GX203l2 k) (FX230 k) x7 x8 x11 x9 x10
noncomputable def GX203l2:Nat→(List Int)→Int→Int→Int→Int→Int→(List Int)→(List Int)→Option R203
 |0,_,_,_,_,_,_,_,_=>none
 |k+1,x7,x8,x11,x12,x13,x14,x9,x10=>B203l2 (GX203l1 k) (GX203l2 k) x7 x8 x11 x12 x13 x14 x9 x10
end
noncomputable abbrev FX203 (k:Nat) (x0:ByteArray) (x1:ByteArray):Option R203:=B203 (GX203l0 k) (FX229 k) x0 x1
noncomputable def GX180l0:Nat→ByteArray→ByteArray→Option R180
 |0,_,_=>none
 |k+1,x0,x1=>B180l0 (GX180l0 k) (FX203 k) x0 x1
noncomputable abbrev FX180 (k:Nat) (x0:ByteArray) (x1:ByteArray):Option R180:=B180 (GX180l0 k) x0 x1
noncomputable abbrev FX163 (k:Nat) (x0:TI) (x1:TI):Option R163:=B163 (FX180 k) (FX198 k) (FX203 k) x0 x1
noncomputable abbrev FX101 (k:Nat) (x0:TQ) (x1:TQ):Option R101:=B101 (FX159 k) (FX160 k) (FX161 k) (FX162 k) (FX163 k) x0 x1
noncomputable abbrev FX102 (k:Nat) (x0:(List TQ)) (x1:Int):Option R102:=B102 (FX81 k) x0 x1
noncomputable def GX20l0:Nat→(List TQ)→(List TQ)→Int→(List TQ)→Option R20
 |0,_,_,_,_=>none
 |k+1,x0,x1,x6,x5=>B20l0 (GX20l0 k) (FX48 k) (FX101 k) (FX102 k) x0 x1 x6 x5
noncomputable abbrev FX20 (k:Nat) (x0:(List TQ)) (x1:(List TQ)):Option R20:=B20 (GX20l0 k) x0 x1
noncomputable def GX21l0:Nat→Int→Int→TQ→(List TQ)→Option R21
 |0,_,_,_,_=>none
 |k+1,x1,x6,x2,x5=>B21l0 (GX21l0 k) (FX48 k) (FX81 k) x1 x6 x2 x5
noncomputable abbrev FX21 (k:Nat) (x0:TQ) (x1:Int):Option R21:=B21 (GX21l0 k) x0 x1
noncomputable abbrev FX103 (k:Nat) (x0:(List (List TQ))) (x1:Int):Option R103:=B103 x0 x1
noncomputable def GX104l0:Nat→(List (List TQ))→Int→Option R104
 |0,_,_=>none
 |k+1,x0,x3=>B104l0 (GX104l0 k) x0 x3
noncomputable abbrev FX104 (k:Nat) (x0:(List (List TQ))):Option R104:=B104 (GX104l0 k) x0
noncomputable def GX23l0:Nat→(List (List TQ))→(List (List TQ))→Int→(List (List TQ))→Option R23
 |0,_,_,_,_=>none
 |k+1,x0,x1,x6,x5=>B23l0 (GX23l0 k) (FX20 k) (FX103 k) (FX104 k) x0 x1 x6 x5
noncomputable abbrev FX23 (k:Nat) (x0:(List (List TQ))) (x1:(List (List TQ))):Option R23:=B23 (GX23l0 k) x0 x1
noncomputable def GX24l0:Nat→(List TQ)→Int→Int→(List (List TQ))→Option R24
 |0,_,_,_,_=>none
 |k+1,x0,x1,x6,x5=>B24l0 (GX24l0 k) (FX104 k) x0 x1 x6 x5
noncomputable abbrev FX24 (k:Nat) (x0:(List TQ)) (x1:Int):Option R24:=B24 (GX24l0 k) x0 x1
noncomputable abbrev FX118 (k:Nat) (x0:TQ) (x1:TQ):Option R118:=B118 (FX159 k) (FX161 k) (FX162 k) (FX163 k) x0 x1
mutual
noncomputable def GX45l0:Nat→(List TQ)→(List TQ)→Int→(List TQ)→Option R45
 |0,_,_,_,_=>none
 |k+1,x0,x1,x6,x5=>B45l0 (GX45l1 k) (FX48 k) (FX81 k) x0 x1 x6 x5
noncomputable def GX45l1:Nat→(List TQ)→(List TQ)→Int→Int→Int→(List TQ)→TQ→Option R45
 |0,_,_,_,_,_,_,_=>none
 |k+1,x0,x1,x6,x21,x22,x5,x7=>B45l1 (GX45l0 k) (GX45l1 k) (FX101 k) (FX118 k) x0 x1 x6 x21 x22 x5 x7
end
noncomputable abbrev FX45 (k:Nat) (x0:(List TQ)) (x1:(List TQ)):Option R45:=B45 (GX45l0 k) x0 x1
noncomputable def GX25l0:Nat→(List TQ)→Int→(List TQ)→Int→Option R25
 |0,_,_,_,_=>none
 |k+1,x0,x1,x5,x6=>B25l0 (GX25l0 k) (FX45 k) x0 x1 x5 x6
noncomputable abbrev FX25 (k:Nat) (x0:(List TQ)) (x1:Int):Option R25:=B25 (GX25l0 k) (FX22 k) x0 x1
theorem LeO.cnd_ {α:Type} {b:Bool} {x y x' y':Option α} (h:LeO x x') (k:LeO y y'):LeO (cnd b x y) (cnd b x' y'):=by cases b<;>assumption
theorem m149 (k:Nat) (x0:TI):LeO (FX149 k x0) (FX149 (k+1) x0):=by
 show LeO (B149 x0) (B149 x0)
 unfold B149
 with_reducible repeat' first|exact LeO.refl _|exact LeO.none _|refine LeO.ite ?_ ?_|refine LeO.cnd_ ?_ ?_|refine LeO.bind ?_ (fun _=>?_)
theorem m245vl:∀k,(∀(x0:(List Int)) (x3:Int),LeO (GX245vl0 k x0 x3) (GX245vl0 (k+1) x0 x3))
 |0=>fun _ _ r h=>by simp [GX245vl0]at h
 |k+1=>by
  have ih0:=m245vl k
  refine ?_
  ·intro x0 x3
   show LeO (B245vl0 (GX245vl0 k) x0 x3) (B245vl0 (GX245vl0 (k+1)) x0 x3)
   unfold B245vl0
   with_reducible repeat' first|apply ih0|exact LeO.refl _|exact LeO.none _|refine LeO.ite ?_ ?_|refine LeO.cnd_ ?_ ?_|refine LeO.bind ?_ (fun _=>?_)
theorem m245v (k:Nat) (x0:(List Int)):LeO (FX245v k x0) (FX245v (k+1) x0):=by
 have ih0:=(m245vl k)
 show LeO (B245v (GX245vl0 k) x0) (B245v (GX245vl0 (k+1)) x0)
 rw [B245v.eq_1,B245v.eq_1]
 with_reducible repeat' first|apply ih0|exact LeO.refl _|exact LeO.none _|refine LeO.ite ?_ ?_|refine LeO.cnd_ ?_ ?_|refine LeO.bind ?_ (fun _=>?_)
theorem m223l:∀k,(∀(x17:(List Int)) (x18:Int) (x19:Int) (x3:(List Int)),LeO (GX223l0 k x17 x18 x19 x3) (GX223l0 (k+1) x17 x18 x19 x3))∧(∀(x4:Int) (x5:Int) (x17:(List Int)) (x18:Int) (x19:Int) (x24:Int) (x3:(List Int)),LeO (GX223l1 k x4 x5 x17 x18 x19 x24 x3) (GX223l1 (k+1) x4 x5 x17 x18 x19 x24 x3))∧(∀(x7:Int) (x3:(List Int)),LeO (GX223l2 k x7 x3) (GX223l2 (k+1) x7 x3))
 |0=>⟨fun _ _ _ _ r h=>by simp [GX223l0]at h,fun _ _ _ _ _ _ _ r h=>by simp [GX223l1]at h,fun _ _ r h=>by simp [GX223l2]at h⟩
 |k+1=>by
  obtain⟨ih0,ih1,ih2⟩:=m223l k
  refine⟨?_,?_,?_⟩
  ·intro x17 x18 x19 x3
   show LeO (B223l0 (GX223l1 k) (GX223l2 k) x17 x18 x19 x3) (B223l0 (GX223l1 (k+1)) (GX223l2 (k+1)) x17 x18 x19 x3)
   unfold B223l0
   with_reducible repeat' first|apply ih0|apply ih1|apply ih2|exact LeO.refl _|exact LeO.none _|apply m245v|refine LeO.ite ?_ ?_|refine LeO.cnd_ ?_ ?_|refine LeO.bind ?_ (fun _=>?_)
  ·intro x4 x5 x17 x18 x19 x24 x3
   show LeO (B223l1 (GX223l0 k) (GX223l1 k) x4 x5 x17 x18 x19 x24 x3) (B223l1 (GX223l0 (k+1)) (GX223l1 (k+1)) x4 x5 x17 x18 x19 x24 x3)
   unfold B223l1
   with_reducible repeat' first|apply ih0|apply ih1|apply ih2|exact LeO.refl _|exact LeO.none _|apply m245v|refine LeO.ite ?_ ?_|refine LeO.cnd_ ?_ ?_|refine LeO.bind ?_ (fun _=>?_)
  ·intro x7 x3
   show LeO (B223l2 (GX223l2 k) x7 x3) (B223l2 (GX223l2 (k+1)) x7 x3)
   unfold B223l2
   with_reducible repeat' first|apply ih0|apply ih1|apply ih2|exact LeO.refl _|exact LeO.none _|apply m245v|refine LeO.ite ?_ ?_|refine LeO.cnd_ ?_ ?_|refine LeO.bind ?_ (fun _=>?_)
theorem m223 (k:Nat) (x0:(List Int)):LeO (FX223 k x0) (FX223 (k+1) x0):=by
 have ih0:=(m223l k).1
 have ih1:=(m223l k).2.1
 have ih2:=(m223l k).2.2
 show LeO (B223 (GX223l0 k) (FX245v k) x0) (B223 (GX223l0 (k+1)) (FX245v (k+1)) x0)
 unfold B223
 with_reducible repeat' first|apply ih0|apply ih1|apply ih2|exact LeO.refl _|exact LeO.none _|apply m245v|refine LeO.ite ?_ ?_|refine LeO.cnd_ ?_ ?_|refine LeO.bind ?_ (fun _=>?_)
theorem m193 (k:Nat) (x0:Int):LeO (FX193 k x0) (FX193 (k+1) x0):=by
 show LeO (B193 (FX223 k) x0) (B193 (FX223 (k+1)) x0)
 unfold B193
 with_reducible repeat' first|exact LeO.refl _|exact LeO.none _|apply m223|refine LeO.ite ?_ ?_|refine LeO.cnd_ ?_ ?_|refine LeO.bind ?_ (fun _=>?_)
theorem m150 (k:Nat) (x0:Int):LeO (FX150 k x0) (FX150 (k+1) x0):=by
 show LeO (B150 (FX193 k) x0) (B150 (FX193 (k+1)) x0)
 unfold B150
 with_reducible repeat' first|exact LeO.refl _|exact LeO.none _|apply m193|refine LeO.ite ?_ ?_|refine LeO.cnd_ ?_ ?_|refine LeO.bind ?_ (fun _=>?_)
theorem m89 (k:Nat) (x0:Int):LeO (FX89 k x0) (FX89 (k+1) x0):=by
 show LeO (B89 (FX149 k) (FX150 k) x0) (B89 (FX149 (k+1)) (FX150 (k+1)) x0)
 unfold B89
 with_reducible repeat' first|exact LeO.refl _|exact LeO.none _|apply m149|apply m150|refine LeO.ite ?_ ?_|refine LeO.cnd_ ?_ ?_|refine LeO.bind ?_ (fun _=>?_)
theorem m152 (k:Nat) (x0:TQ):LeO (FX152 k x0) (FX152 (k+1) x0):=by
 show LeO (B152 x0) (B152 x0)
 unfold B152
 with_reducible repeat' first|exact LeO.refl _|exact LeO.none _|refine LeO.ite ?_ ?_|refine LeO.cnd_ ?_ ?_|refine LeO.bind ?_ (fun _=>?_)
theorem m214 (k:Nat) (x0:ByteArray):LeO (FX214 k x0) (FX214 (k+1) x0):=by
 show LeO (B214 x0) (B214 x0)
 unfold B214
 with_reducible repeat' first|exact LeO.refl _|exact LeO.none _|refine LeO.ite ?_ ?_|refine LeO.cnd_ ?_ ?_|refine LeO.bind ?_ (fun _=>?_)
theorem m243 (k:Nat):LeO (FX243 k) (FX243 (k+1)):=by
 show LeO (B243) (B243)
 unfold B243
 with_reducible repeat' first|exact LeO.refl _|exact LeO.none _|refine LeO.ite ?_ ?_|refine LeO.cnd_ ?_ ?_|refine LeO.bind ?_ (fun _=>?_)
theorem m213 (k:Nat) (x0:TI):LeO (FX213 k x0) (FX213 (k+1) x0):=by
 show LeO (B213 (FX214 k) (FX243 k) x0) (B213 (FX214 (k+1)) (FX243 (k+1)) x0)
 unfold B213
 with_reducible repeat' first|exact LeO.refl _|exact LeO.none _|apply m214|apply m243|refine LeO.ite ?_ ?_|refine LeO.cnd_ ?_ ?_|refine LeO.bind ?_ (fun _=>?_)
theorem m245l:∀k,(∀(x3:Int) (y0:(List Int)),LeO (GX245l0 k x3 y0) (GX245l0 (k+1) x3 y0))
 |0=>fun _ _ r h=>by simp [GX245l0]at h
 |k+1=>by
  have ih0:=m245l k
  refine ?_
  ·intro x3 y0
   show LeO (B245l0 (GX245l0 k) x3 y0) (B245l0 (GX245l0 (k+1)) x3 y0)
   unfold B245l0
   with_reducible repeat' first|apply ih0|exact LeO.refl _|exact LeO.none _|refine LeO.ite ?_ ?_|refine LeO.cnd_ ?_ ?_|refine LeO.bind ?_ (fun _=>?_)
theorem m245 (k:Nat) (y0:(List Int)):LeO (FX245 k y0) (FX245 (k+1) y0):=by
 have ih0:=(m245l k)
 show LeO (B245 (GX245l0 k) y0) (B245 (GX245l0 (k+1)) y0)
 rw [B245.eq_1,B245.eq_1]
 with_reducible repeat' first|apply ih0|exact LeO.refl _|exact LeO.none _|refine LeO.ite ?_ ?_|refine LeO.cnd_ ?_ ?_|refine LeO.bind ?_ (fun _=>?_)
theorem m225l:∀k,(∀(x0:ByteArray) (x12:Int) (x13:Int) (x3:(List Int)),LeO (GX225l0 k x0 x12 x13 x3) (GX225l0 (k+1) x0 x12 x13 x3))
 |0=>fun _ _ _ _ r h=>by simp [GX225l0]at h
 |k+1=>by
  have ih0:=m225l k
  refine ?_
  ·intro x0 x12 x13 x3
   show LeO (B225l0 (GX225l0 k) (FX245 k) x0 x12 x13 x3) (B225l0 (GX225l0 (k+1)) (FX245 (k+1)) x0 x12 x13 x3)
   unfold B225l0
   with_reducible repeat' first|apply ih0|exact LeO.refl _|exact LeO.none _|apply m245|refine LeO.ite ?_ ?_|refine LeO.cnd_ ?_ ?_|refine LeO.bind ?_ (fun _=>?_)
theorem m225 (k:Nat) (x0:ByteArray):LeO (FX225 k x0) (FX225 (k+1) x0):=by
 have ih0:=(m225l k)
 show LeO (B225 (GX225l0 k) x0) (B225 (GX225l0 (k+1)) x0)
 unfold B225
 with_reducible repeat' first|apply ih0|exact LeO.refl _|exact LeO.none _|apply m245|refine LeO.ite ?_ ?_|refine LeO.cnd_ ?_ ?_|refine LeO.bind ?_ (fun _=>?_)
theorem m276l:∀k,(∀(x0:(List Int)) (x1:(List Int)) (x5:Int),LeO (GX276l0 k x0 x1 x5) (GX276l0 (k+1) x0 x1 x5))
 |0=>fun _ _ _ r h=>by simp [GX276l0]at h
 |k+1=>by
  have ih0:=m276l k
  refine ?_
  ·intro x0 x1 x5
   show LeO (B276l0 (GX276l0 k) x0 x1 x5) (B276l0 (GX276l0 (k+1)) x0 x1 x5)
   unfold B276l0
   with_reducible repeat' first|apply ih0|exact LeO.refl _|exact LeO.none _|refine LeO.ite ?_ ?_|refine LeO.cnd_ ?_ ?_|refine LeO.bind ?_ (fun _=>?_)
theorem m276 (k:Nat) (x0:(List Int)) (x1:(List Int)):LeO (FX276 k x0 x1) (FX276 (k+1) x0 x1):=by
 have ih0:=(m276l k)
 show LeO (B276 (GX276l0 k) x0 x1) (B276 (GX276l0 (k+1)) x0 x1)
 unfold B276
 with_reducible repeat' first|apply ih0|exact LeO.refl _|exact LeO.none _|refine LeO.ite ?_ ?_|refine LeO.cnd_ ?_ ?_|refine LeO.bind ?_ (fun _=>?_)
theorem m297 (k:Nat) (x0:Int):LeO (FX297 k x0) (FX297 (k+1) x0):=by
 show LeO (B297 x0) (B297 x0)
 unfold B297
 with_reducible repeat' first|exact LeO.refl _|exact LeO.none _|refine LeO.ite ?_ ?_|refine LeO.cnd_ ?_ ?_|refine LeO.bind ?_ (fun _=>?_)
theorem m278 (k:Nat) (x0:Int):LeO (FX278 k x0) (FX278 (k+1) x0):=by
 show LeO (B278 (FX297 k) x0) (B278 (FX297 (k+1)) x0)
 unfold B278
 with_reducible repeat' first|exact LeO.refl _|exact LeO.none _|apply m297|refine LeO.ite ?_ ?_|refine LeO.cnd_ ?_ ?_|refine LeO.bind ?_ (fun _=>?_)
theorem m277l:∀k,(∀(x2:Int) (x8:Int) (x9:Int) (x10:Int) (x11:Int) (x13:Int) (x14:Int) (x15:Int) (x16:Int),LeO (GX277l0 k x2 x8 x9 x10 x11 x13 x14 x15 x16) (GX277l0 (k+1) x2 x8 x9 x10 x11 x13 x14 x15 x16))∧(∀(x2:Int) (x8:Int) (x9:Int) (x10:Int) (x14:Int) (x15:Int) (x16:Int) (x17:Int) (x18:Int),LeO (GX277l1 k x2 x8 x9 x10 x14 x15 x16 x17 x18) (GX277l1 (k+1) x2 x8 x9 x10 x14 x15 x16 x17 x18))
 |0=>⟨fun _ _ _ _ _ _ _ _ _ r h=>by simp [GX277l0]at h,fun _ _ _ _ _ _ _ _ _ r h=>by simp [GX277l1]at h⟩
 |k+1=>by
  obtain⟨ih0,ih1⟩:=m277l k
  refine⟨?_,?_⟩
  ·intro x2 x8 x9 x10 x11 x13 x14 x15 x16
   show LeO (B277l0 (GX277l0 k) (GX277l1 k) x2 x8 x9 x10 x11 x13 x14 x15 x16) (B277l0 (GX277l0 (k+1)) (GX277l1 (k+1)) x2 x8 x9 x10 x11 x13 x14 x15 x16)
   unfold B277l0
   with_reducible repeat' first|apply ih0|apply ih1|exact LeO.refl _|exact LeO.none _|apply m278|refine LeO.ite ?_ ?_|refine LeO.cnd_ ?_ ?_|refine LeO.bind ?_ (fun _=>?_)
  ·intro x2 x8 x9 x10 x14 x15 x16 x17 x18
   show LeO (B277l1 (GX277l1 k) x2 x8 x9 x10 x14 x15 x16 x17 x18) (B277l1 (GX277l1 (k+1)) x2 x8 x9 x10 x14 x15 x16 x17 x18)
   unfold B277l1
   with_reducible repeat' first|apply ih0|apply ih1|exact LeO.refl _|exact LeO.none _|apply m278|refine LeO.ite ?_ ?_|refine LeO.cnd_ ?_ ?_|refine LeO.bind ?_ (fun _=>?_)
theorem m277 (k:Nat) (x0:Int) (x1:Int) (x2:Int):LeO (FX277 k x0 x1 x2) (FX277 (k+1) x0 x1 x2):=by
 have ih0:=(m277l k).1
 have ih1:=(m277l k).2
 show LeO (B277 (GX277l0 k) (FX278 k) x0 x1 x2) (B277 (GX277l0 (k+1)) (FX278 (k+1)) x0 x1 x2)
 unfold B277
 with_reducible repeat' first|apply ih0|apply ih1|exact LeO.refl _|exact LeO.none _|apply m278|refine LeO.ite ?_ ?_|refine LeO.cnd_ ?_ ?_|refine LeO.bind ?_ (fun _=>?_)
theorem m279l:∀k,(∀(x1:Int) (x12:(List Int)) (x13:Int) (x14:Int) (x5:(List Int)),LeO (GX279l0 k x1 x12 x13 x14 x5) (GX279l0 (k+1) x1 x12 x13 x14 x5))
 |0=>fun _ _ _ _ _ r h=>by simp [GX279l0]at h
 |k+1=>by
  have ih0:=m279l k
  refine ?_
  ·intro x1 x12 x13 x14 x5
   show LeO (B279l0 (GX279l0 k) x1 x12 x13 x14 x5) (B279l0 (GX279l0 (k+1)) x1 x12 x13 x14 x5)
   unfold B279l0
   with_reducible repeat' first|apply ih0|exact LeO.refl _|exact LeO.none _|refine LeO.ite ?_ ?_|refine LeO.cnd_ ?_ ?_|refine LeO.bind ?_ (fun _=>?_)
theorem m279 (k:Nat) (x0:(List Int)) (x1:Int):LeO (FX279 k x0 x1) (FX279 (k+1) x0 x1):=by
 have ih0:=(m279l k)
 show LeO (B279 (GX279l0 k) x0 x1) (B279 (GX279l0 (k+1)) x0 x1)
 unfold B279
 with_reducible repeat' first|apply ih0|exact LeO.refl _|exact LeO.none _|refine LeO.ite ?_ ?_|refine LeO.cnd_ ?_ ?_|refine LeO.bind ?_ (fun _=>?_)
theorem m246 (k:Nat) (x0:Int) (x1:Int):LeO (FX246 k x0 x1) (FX246 (k+1) x0 x1):=by
 show LeO (B246 x0 x1) (B246 x0 x1)
 unfold B246
 with_reducible repeat' first|exact LeO.refl _|exact LeO.none _|refine LeO.ite ?_ ?_|refine LeO.cnd_ ?_ ?_|refine LeO.bind ?_ (fun _=>?_)
theorem m247 (k:Nat) (x0:Int) (x1:Int) (x2:Int):LeO (FX247 k x0 x1 x2) (FX247 (k+1) x0 x1 x2):=LeO.refl _
theorem m248 (k:Nat) (x0:Int) (x1:Int) (x2:Int):LeO (FX248 k x0 x1 x2) (FX248 (k+1) x0 x1 x2):=LeO.refl _
theorem m280l:∀k,(∀(x1:(List Int)) (x5:Int) (x6:Int) (x7:Int) (x8:Int) (y0:(List Int)),LeO (GX280l0 k x1 x5 x6 x7 x8 y0) (GX280l0 (k+1) x1 x5 x6 x7 x8 y0))∧(∀(x1:(List Int)) (x5:Int) (x6:Int) (x11:Int) (x12:Int) (x104:Int) (x105:Int) (y0:(List Int)),LeO (GX280l1 k x1 x5 x6 x11 x12 x104 x105 y0) (GX280l1 (k+1) x1 x5 x6 x11 x12 x104 x105 y0))∧(∀(x1:(List Int)) (x5:Int) (x6:Int) (x17:Int) (x156:Int) (x157:Int) (y0:(List Int)),LeO (GX280l2 k x1 x5 x6 x17 x156 x157 y0) (GX280l2 (k+1) x1 x5 x6 x17 x156 x157 y0))
 |0=>⟨fun _ _ _ _ _ _ r h=>by simp [GX280l0]at h,fun _ _ _ _ _ _ _ _ r h=>by simp [GX280l1]at h,fun _ _ _ _ _ _ _ r h=>by simp [GX280l2]at h⟩
 |k+1=>by
  obtain⟨ih0,ih1,ih2⟩:=m280l k
  refine⟨?_,?_,?_⟩
  ·intro x1 x5 x6 x7 x8 y0
   show LeO (B280l0 (GX280l0 k) (GX280l1 k) (FX246 k) (FX247 k) x1 x5 x6 x7 x8 y0) (B280l0 (GX280l0 (k+1)) (GX280l1 (k+1)) (FX246 (k+1)) (FX247 (k+1)) x1 x5 x6 x7 x8 y0)
   unfold B280l0
   with_reducible repeat' first|apply ih0|apply ih1|apply ih2|exact LeO.refl _|exact LeO.none _|apply m246|apply m247|apply m248|apply m277|refine LeO.ite ?_ ?_|refine LeO.cnd_ ?_ ?_|refine LeO.bind ?_ (fun _=>?_)
  ·intro x1 x5 x6 x11 x12 x104 x105 y0
   show LeO (B280l1 (GX280l1 k) (GX280l2 k) (FX246 k) (FX247 k) (FX248 k) x1 x5 x6 x11 x12 x104 x105 y0) (B280l1 (GX280l1 (k+1)) (GX280l2 (k+1)) (FX246 (k+1)) (FX247 (k+1)) (FX248 (k+1)) x1 x5 x6 x11 x12 x104 x105 y0)
   unfold B280l1
   with_reducible repeat' first|apply ih0|apply ih1|apply ih2|exact LeO.refl _|exact LeO.none _|apply m246|apply m247|apply m248|apply m277|refine LeO.ite ?_ ?_|refine LeO.cnd_ ?_ ?_|refine LeO.bind ?_ (fun _=>?_)
  ·intro x1 x5 x6 x17 x156 x157 y0
   show LeO (B280l2 (GX280l2 k) (FX247 k) x1 x5 x6 x17 x156 x157 y0) (B280l2 (GX280l2 (k+1)) (FX247 (k+1)) x1 x5 x6 x17 x156 x157 y0)
   unfold B280l2
   with_reducible repeat' first|apply ih0|apply ih1|apply ih2|exact LeO.refl _|exact LeO.none _|apply m246|apply m247|apply m248|apply m277|refine LeO.ite ?_ ?_|refine LeO.cnd_ ?_ ?_|refine LeO.bind ?_ (fun _=>?_)
theorem m280 (k:Nat) (x1:(List Int)) (y0:(List Int)):LeO (FX280 k x1 y0) (FX280 (k+1) x1 y0):=by
 have ih0:=(m280l k).1
 have ih1:=(m280l k).2.1
 have ih2:=(m280l k).2.2
 show LeO (B280 (GX280l0 k) (FX247 k) (FX277 k) x1 y0) (B280 (GX280l0 (k+1)) (FX247 (k+1)) (FX277 (k+1)) x1 y0)
 unfold B280
 with_reducible repeat' first|apply ih0|apply ih1|apply ih2|exact LeO.refl _|exact LeO.none _|apply m246|apply m247|apply m248|apply m277|refine LeO.ite ?_ ?_|refine LeO.cnd_ ?_ ?_|refine LeO.bind ?_ (fun _=>?_)
theorem m244l:∀k,(∀(x0:(List Int)) (x1:(List Int)) (x7:Int) (x8:Int) (x6:(List Int)),LeO (GX244l0 k x0 x1 x7 x8 x6) (GX244l0 (k+1) x0 x1 x7 x8 x6))∧(∀(x9:Int) (x10:(List Int)) (x12:Int) (x14:Int) (x11:(List Int)) (x13:(List Int)),LeO (GX244l1 k x9 x10 x12 x14 x11 x13) (GX244l1 (k+1) x9 x10 x12 x14 x11 x13))∧(∀(x9:Int) (x12:Int) (x96:Int) (x97:Int) (x11:(List Int)) (x13:(List Int)),LeO (GX244l2 k x9 x12 x96 x97 x11 x13) (GX244l2 (k+1) x9 x12 x96 x97 x11 x13))
 |0=>⟨fun _ _ _ _ _ r h=>by simp [GX244l0]at h,fun _ _ _ _ _ _ r h=>by simp [GX244l1]at h,fun _ _ _ _ _ _ r h=>by simp [GX244l2]at h⟩
 |k+1=>by
  obtain⟨ih0,ih1,ih2⟩:=m244l k
  refine⟨?_,?_,?_⟩
  ·intro x0 x1 x7 x8 x6
   show LeO (B244l0 (GX244l0 k) (FX245 k) (FX277 k) x0 x1 x7 x8 x6) (B244l0 (GX244l0 (k+1)) (FX245 (k+1)) (FX277 (k+1)) x0 x1 x7 x8 x6)
   unfold B244l0
   with_reducible repeat' first|apply ih0|apply ih1|apply ih2|exact LeO.refl _|exact LeO.none _|apply m245|apply m276|apply m277|apply m278|apply m279|apply m280|refine LeO.ite ?_ ?_|refine LeO.cnd_ ?_ ?_|refine LeO.bind ?_ (fun _=>?_)
  ·intro x9 x10 x12 x14 x11 x13
   show LeO (B244l1 (GX244l1 k) (GX244l2 k) (FX280 k) x9 x10 x12 x14 x11 x13) (B244l1 (GX244l1 (k+1)) (GX244l2 (k+1)) (FX280 (k+1)) x9 x10 x12 x14 x11 x13)
   unfold B244l1
   with_reducible repeat' first|apply ih0|apply ih1|apply ih2|exact LeO.refl _|exact LeO.none _|apply m245|apply m276|apply m277|apply m278|apply m279|apply m280|refine LeO.ite ?_ ?_|refine LeO.cnd_ ?_ ?_|refine LeO.bind ?_ (fun _=>?_)
  ·intro x9 x12 x96 x97 x11 x13
   show LeO (B244l2 (GX244l2 k) (FX245 k) x9 x12 x96 x97 x11 x13) (B244l2 (GX244l2 (k+1)) (FX245 (k+1)) x9 x12 x96 x97 x11 x13)
   unfold B244l2
   with_reducible repeat' first|apply ih0|apply ih1|apply ih2|exact LeO.refl _|exact LeO.none _|apply m245|apply m276|apply m277|apply m278|apply m279|apply m280|refine LeO.ite ?_ ?_|refine LeO.cnd_ ?_ ?_|refine LeO.bind ?_ (fun _=>?_)
theorem m244 (k:Nat) (x0:(List Int)) (x1:(List Int)):LeO (FX244 k x0 x1) (FX244 (k+1) x0 x1):=by
 have ih0:=(m244l k).1
 have ih1:=(m244l k).2.1
 have ih2:=(m244l k).2.2
 show LeO (B244 (GX244l0 k) (GX244l1 k) (FX245 k) (FX276 k) (FX278 k) (FX279 k) x0 x1) (B244 (GX244l0 (k+1)) (GX244l1 (k+1)) (FX245 (k+1)) (FX276 (k+1)) (FX278 (k+1)) (FX279 (k+1)) x0 x1)
 unfold B244
 with_reducible repeat' first|apply ih0|apply ih1|apply ih2|exact LeO.refl _|exact LeO.none _|apply m245|apply m276|apply m277|apply m278|apply m279|apply m280|refine LeO.ite ?_ ?_|refine LeO.cnd_ ?_ ?_|refine LeO.bind ?_ (fun _=>?_)
theorem m215l:∀k,(∀(x5:(List Int)) (x6:(List Int)),LeO (GX215l0 k x5 x6) (GX215l0 (k+1) x5 x6))
 |0=>fun _ _ r h=>by simp [GX215l0]at h
 |k+1=>by
  have ih0:=m215l k
  refine ?_
  ·intro x5 x6
   show LeO (B215l0 (GX215l0 k) (FX223 k) (FX244 k) x5 x6) (B215l0 (GX215l0 (k+1)) (FX223 (k+1)) (FX244 (k+1)) x5 x6)
   unfold B215l0
   with_reducible repeat' first|apply ih0|exact LeO.refl _|exact LeO.none _|apply m223|apply m225|apply m244|refine LeO.ite ?_ ?_|refine LeO.cnd_ ?_ ?_|refine LeO.bind ?_ (fun _=>?_)
theorem m215 (k:Nat) (x0:ByteArray) (x1:ByteArray):LeO (FX215 k x0 x1) (FX215 (k+1) x0 x1):=by
 have ih0:=(m215l k)
 show LeO (B215 (GX215l0 k) (FX225 k) x0 x1) (B215 (GX215l0 (k+1)) (FX225 (k+1)) x0 x1)
 unfold B215
 with_reducible repeat' first|apply ih0|exact LeO.refl _|exact LeO.none _|apply m223|apply m225|apply m244|refine LeO.ite ?_ ?_|refine LeO.cnd_ ?_ ?_|refine LeO.bind ?_ (fun _=>?_)
theorem m172 (k:Nat) (x0:TQ):LeO (FX172 k x0) (FX172 (k+1) x0):=by
 show LeO (B172 (FX213 k) (FX214 k) (FX215 k) x0) (B172 (FX213 (k+1)) (FX214 (k+1)) (FX215 (k+1)) x0)
 unfold B172
 with_reducible repeat' first|exact LeO.refl _|exact LeO.none _|apply m213|apply m214|apply m215|refine LeO.ite ?_ ?_|refine LeO.cnd_ ?_ ?_|refine LeO.bind ?_ (fun _=>?_)
theorem m120l:∀k,(∀(x0:(List TQ)) (x9:(List TQ)) (x10:Int) (x11:Int),LeO (GX120l0 k x0 x9 x10 x11) (GX120l0 (k+1) x0 x9 x10 x11))
 |0=>fun _ _ _ _ r h=>by simp [GX120l0]at h
 |k+1=>by
  have ih0:=m120l k
  refine ?_
  ·intro x0 x9 x10 x11
   show LeO (B120l0 (GX120l0 k) (FX152 k) (FX172 k) x0 x9 x10 x11) (B120l0 (GX120l0 (k+1)) (FX152 (k+1)) (FX172 (k+1)) x0 x9 x10 x11)
   unfold B120l0
   with_reducible repeat' first|apply ih0|exact LeO.refl _|exact LeO.none _|apply m152|apply m172|refine LeO.ite ?_ ?_|refine LeO.cnd_ ?_ ?_|refine LeO.bind ?_ (fun _=>?_)
theorem m120 (k:Nat) (x0:(List TQ)):LeO (FX120 k x0) (FX120 (k+1) x0):=by
 have ih0:=(m120l k)
 show LeO (B120 (GX120l0 k) x0) (B120 (GX120l0 (k+1)) x0)
 unfold B120
 with_reducible repeat' first|apply ih0|exact LeO.refl _|exact LeO.none _|apply m152|apply m172|refine LeO.ite ?_ ?_|refine LeO.cnd_ ?_ ?_|refine LeO.bind ?_ (fun _=>?_)
theorem m171 (k:Nat) (x0:TQ):LeO (FX171 k x0) (FX171 (k+1) x0):=by
 show LeO (B171 x0) (B171 x0)
 unfold B171
 with_reducible repeat' first|exact LeO.refl _|exact LeO.none _|refine LeO.ite ?_ ?_|refine LeO.cnd_ ?_ ?_|refine LeO.bind ?_ (fun _=>?_)
theorem m170 (k:Nat) (x0:TQ):LeO (FX170 k x0) (FX170 (k+1) x0):=by
 show LeO (B170 (FX171 k) x0) (B170 (FX171 (k+1)) x0)
 unfold B170
 with_reducible repeat' first|exact LeO.refl _|exact LeO.none _|apply m171|refine LeO.ite ?_ ?_|refine LeO.cnd_ ?_ ?_|refine LeO.bind ?_ (fun _=>?_)
theorem m194Forml:∀k,(∀(x0:(List TQ)) (x7:Int) (x8:Int),LeO (GX194Forml0 k x0 x7 x8) (GX194Forml0 (k+1) x0 x7 x8))
 |0=>fun _ _ _ r h=>by simp [GX194Forml0]at h
 |k+1=>by
  have ih0:=m194Forml k
  refine ?_
  ·intro x0 x7 x8
   show LeO (B194Forml0 (GX194Forml0 k) (FX170 k) x0 x7 x8) (B194Forml0 (GX194Forml0 (k+1)) (FX170 (k+1)) x0 x7 x8)
   unfold B194Forml0
   with_reducible repeat' first|apply ih0|exact LeO.refl _|exact LeO.none _|apply m170|refine LeO.ite ?_ ?_|refine LeO.cnd_ ?_ ?_|refine LeO.bind ?_ (fun _=>?_)
theorem m194Form (k:Nat) (x0:(List TQ)):LeO (FX194Form k x0) (FX194Form (k+1) x0):=by
 have ih0:=(m194Forml k)
 show LeO (B194Form (GX194Forml0 k) x0) (B194Form (GX194Forml0 (k+1)) x0)
 rw [B194Form.eq_1,B194Form.eq_1]
 with_reducible repeat' first|apply ih0|exact LeO.refl _|exact LeO.none _|apply m170|refine LeO.ite ?_ ?_|refine LeO.cnd_ ?_ ?_|refine LeO.bind ?_ (fun _=>?_)
theorem m153Form (k:Nat) (x0:(List TQ)):LeO (FX153Form k x0) (FX153Form (k+1) x0):=by
 show LeO (B153Form (FX194Form k) x0) (B153Form (FX194Form (k+1)) x0)
 unfold B153Form
 with_reducible repeat' first|exact LeO.refl _|exact LeO.none _|apply m194Form|refine LeO.ite ?_ ?_|refine LeO.cnd_ ?_ ?_|refine LeO.bind ?_ (fun _=>?_)
theorem m119 (k:Nat) (x0:(List TQ)):LeO (FX119 k x0) (FX119 (k+1) x0):=by
 show LeO (B119 (FX89 k) (FX120 k) (FX153Form k) x0) (B119 (FX89 (k+1)) (FX120 (k+1)) (FX153Form (k+1)) x0)
 unfold B119
 with_reducible repeat' first|exact LeO.refl _|exact LeO.none _|apply m89|apply m120|apply m153Form|refine LeO.ite ?_ ?_|refine LeO.cnd_ ?_ ?_|refine LeO.bind ?_ (fun _=>?_)
theorem m124 (k:Nat) (x0:(List TQ)) (x1:(List TQ)):LeO (FX124 k x0 x1) (FX124 (k+1) x0 x1):=by
 show LeO (B124 (FX120 k) x0 x1) (B124 (FX120 (k+1)) x0 x1)
 unfold B124
 with_reducible repeat' first|exact LeO.refl _|exact LeO.none _|apply m120|refine LeO.ite ?_ ?_|refine LeO.cnd_ ?_ ?_|refine LeO.bind ?_ (fun _=>?_)
theorem m138l:∀k,(∀(x1:(List (List TQ))) (x11:(List (List TQ))) (x12:Int) (x13:Int) (x2:(List TQ)),LeO (GX138l0 k x1 x11 x12 x13 x2) (GX138l0 (k+1) x1 x11 x12 x13 x2))
 |0=>fun _ _ _ _ _ r h=>by simp [GX138l0]at h
 |k+1=>by
  have ih0:=m138l k
  refine ?_
  ·intro x1 x11 x12 x13 x2
   show LeO (B138l0 (GX138l0 k) (FX124 k) x1 x11 x12 x13 x2) (B138l0 (GX138l0 (k+1)) (FX124 (k+1)) x1 x11 x12 x13 x2)
   unfold B138l0
   with_reducible repeat' first|apply ih0|exact LeO.refl _|exact LeO.none _|apply m124|refine LeO.ite ?_ ?_|refine LeO.cnd_ ?_ ?_|refine LeO.bind ?_ (fun _=>?_)
theorem m138 (k:Nat) (x0:(List TQ)) (x1:(List (List TQ))):LeO (FX138 k x0 x1) (FX138 (k+1) x0 x1):=by
 have ih0:=(m138l k)
 show LeO (B138 (GX138l0 k) x0 x1) (B138 (GX138l0 (k+1)) x0 x1)
 unfold B138
 with_reducible repeat' first|apply ih0|exact LeO.refl _|exact LeO.none _|apply m124|refine LeO.ite ?_ ?_|refine LeO.cnd_ ?_ ?_|refine LeO.bind ?_ (fun _=>?_)
theorem m83l:∀k,(∀(x14:(List (List (List TQ)))) (x15:Int) (x16:Int) (x2:(List TQ)),LeO (GX83l0 k x14 x15 x16 x2) (GX83l0 (k+1) x14 x15 x16 x2))
 |0=>fun _ _ _ _ r h=>by simp [GX83l0]at h
 |k+1=>by
  have ih0:=m83l k
  refine ?_
  ·intro x14 x15 x16 x2
   show LeO (B83l0 (GX83l0 k) (FX138 k) x14 x15 x16 x2) (B83l0 (GX83l0 (k+1)) (FX138 (k+1)) x14 x15 x16 x2)
   unfold B83l0
   with_reducible repeat' first|apply ih0|exact LeO.refl _|exact LeO.none _|apply m119|apply m138|refine LeO.ite ?_ ?_|refine LeO.cnd_ ?_ ?_|refine LeO.bind ?_ (fun _=>?_)
theorem m83 (k:Nat) (x0:(List TQ)) (x1:(List (List (List TQ)))):LeO (FX83 k x0 x1) (FX83 (k+1) x0 x1):=by
 have ih0:=(m83l k)
 show LeO (B83 (GX83l0 k) (FX119 k) x0 x1) (B83 (GX83l0 (k+1)) (FX119 (k+1)) x0 x1)
 unfold B83
 with_reducible repeat' first|apply ih0|exact LeO.refl _|exact LeO.none _|apply m119|apply m138|refine LeO.ite ?_ ?_|refine LeO.cnd_ ?_ ?_|refine LeO.bind ?_ (fun _=>?_)
theorem m224l:∀k,(∀(x1:(List Int)) (x20:(List Int)) (x21:Int) (x22:Int) (x5:(List Int)),LeO (GX224l0 k x1 x20 x21 x22 x5) (GX224l0 (k+1) x1 x20 x21 x22 x5))∧(∀(x1:(List Int)) (x6:Int) (x7:Int) (x8:Int) (x20:(List Int)) (x21:Int) (x22:Int) (x27:(List Int)) (x28:Int) (x29:Int) (x5:(List Int)),LeO (GX224l1 k x1 x6 x7 x8 x20 x21 x22 x27 x28 x29 x5) (GX224l1 (k+1) x1 x6 x7 x8 x20 x21 x22 x27 x28 x29 x5))
 |0=>⟨fun _ _ _ _ _ r h=>by simp [GX224l0]at h,fun _ _ _ _ _ _ _ _ _ _ _ r h=>by simp [GX224l1]at h⟩
 |k+1=>by
  obtain⟨ih0,ih1⟩:=m224l k
  refine⟨?_,?_⟩
  ·intro x1 x20 x21 x22 x5
   show LeO (B224l0 (GX224l1 k) (FX245 k) x1 x20 x21 x22 x5) (B224l0 (GX224l1 (k+1)) (FX245 (k+1)) x1 x20 x21 x22 x5)
   unfold B224l0
   with_reducible repeat' first|apply ih0|apply ih1|exact LeO.refl _|exact LeO.none _|apply m245|apply m246|apply m247|refine LeO.ite ?_ ?_|refine LeO.cnd_ ?_ ?_|refine LeO.bind ?_ (fun _=>?_)
  ·intro x1 x6 x7 x8 x20 x21 x22 x27 x28 x29 x5
   show LeO (B224l1 (GX224l0 k) (GX224l1 k) (FX246 k) (FX247 k) x1 x6 x7 x8 x20 x21 x22 x27 x28 x29 x5) (B224l1 (GX224l0 (k+1)) (GX224l1 (k+1)) (FX246 (k+1)) (FX247 (k+1)) x1 x6 x7 x8 x20 x21 x22 x27 x28 x29 x5)
   unfold B224l1
   with_reducible repeat' first|apply ih0|apply ih1|exact LeO.refl _|exact LeO.none _|apply m245|apply m246|apply m247|refine LeO.ite ?_ ?_|refine LeO.cnd_ ?_ ?_|refine LeO.bind ?_ (fun _=>?_)
theorem m224 (k:Nat) (x0:(List Int)) (x1:(List Int)):LeO (FX224 k x0 x1) (FX224 (k+1) x0 x1):=by
 have ih0:=(m224l k).1
 have ih1:=(m224l k).2
 show LeO (B224 (GX224l0 k) x0 x1) (B224 (GX224l0 (k+1)) x0 x1)
 unfold B224
 with_reducible repeat' first|apply ih0|apply ih1|exact LeO.refl _|exact LeO.none _|apply m245|apply m246|apply m247|refine LeO.ite ?_ ?_|refine LeO.cnd_ ?_ ?_|refine LeO.bind ?_ (fun _=>?_)
theorem m186 (k:Nat) (x0:ByteArray) (x1:ByteArray):LeO (FX186 k x0 x1) (FX186 (k+1) x0 x1):=by
 show LeO (B186 (FX223 k) (FX224 k) (FX225 k) x0 x1) (B186 (FX223 (k+1)) (FX224 (k+1)) (FX225 (k+1)) x0 x1)
 unfold B186
 with_reducible repeat' first|exact LeO.refl _|exact LeO.none _|apply m223|apply m224|apply m225|refine LeO.ite ?_ ?_|refine LeO.cnd_ ?_ ?_|refine LeO.bind ?_ (fun _=>?_)
theorem m192 (k:Nat) (x0:Bool) (x1:ByteArray):LeO (FX192 k x0 x1) (FX192 (k+1) x0 x1):=by
 show LeO (B192 x0 x1) (B192 x0 x1)
 unfold B192
 with_reducible repeat' first|exact LeO.refl _|exact LeO.none _|refine LeO.ite ?_ ?_|refine LeO.cnd_ ?_ ?_|refine LeO.bind ?_ (fun _=>?_)
theorem m184 (k:Nat) (x0:TI) (x1:TI):LeO (FX184 k x0 x1) (FX184 (k+1) x0 x1):=by
 show LeO (B184 (FX186 k) (FX192 k) x0 x1) (B184 (FX186 (k+1)) (FX192 (k+1)) x0 x1)
 unfold B184
 with_reducible repeat' first|exact LeO.refl _|exact LeO.none _|apply m186|apply m192|refine LeO.ite ?_ ?_|refine LeO.cnd_ ?_ ?_|refine LeO.bind ?_ (fun _=>?_)
theorem m222 (k:Nat) (x0:ByteArray) (x1:ByteArray):LeO (FX222 k x0 x1) (FX222 (k+1) x0 x1):=by
 show LeO (B222 (FX223 k) (FX225 k) (FX244 k) x0 x1) (B222 (FX223 (k+1)) (FX225 (k+1)) (FX244 (k+1)) x0 x1)
 unfold B222
 with_reducible repeat' first|exact LeO.refl _|exact LeO.none _|apply m223|apply m225|apply m244|refine LeO.ite ?_ ?_|refine LeO.cnd_ ?_ ?_|refine LeO.bind ?_ (fun _=>?_)
theorem m185 (k:Nat) (x0:TI) (x1:TI):LeO (FX185 k x0 x1) (FX185 (k+1) x0 x1):=by
 show LeO (B185 (FX192 k) (FX215 k) (FX222 k) x0 x1) (B185 (FX192 (k+1)) (FX215 (k+1)) (FX222 (k+1)) x0 x1)
 unfold B185
 with_reducible repeat' first|exact LeO.refl _|exact LeO.none _|apply m192|apply m215|apply m222|refine LeO.ite ?_ ?_|refine LeO.cnd_ ?_ ?_|refine LeO.bind ?_ (fun _=>?_)
theorem m142 (k:Nat) (x0:TQ) (x1:TQ):LeO (FX142 k x0 x1) (FX142 (k+1) x0 x1):=by
 show LeO (B142 (FX149 k) (FX184 k) (FX185 k) (FX186 k) x0 x1) (B142 (FX149 (k+1)) (FX184 (k+1)) (FX185 (k+1)) (FX186 (k+1)) x0 x1)
 unfold B142
 with_reducible repeat' first|exact LeO.refl _|exact LeO.none _|apply m149|apply m184|apply m185|apply m186|refine LeO.ite ?_ ?_|refine LeO.cnd_ ?_ ?_|refine LeO.bind ?_ (fun _=>?_)
theorem m188l:∀k,(∀(x1:Int) (x5:(List Int)) (x6:(List Int)),LeO (GX188l0 k x1 x5 x6) (GX188l0 (k+1) x1 x5 x6))
 |0=>fun _ _ _ r h=>by simp [GX188l0]at h
 |k+1=>by
  have ih0:=m188l k
  refine ?_
  ·intro x1 x5 x6
   show LeO (B188l0 (GX188l0 k) (FX223 k) (FX224 k) x1 x5 x6) (B188l0 (GX188l0 (k+1)) (FX223 (k+1)) (FX224 (k+1)) x1 x5 x6)
   unfold B188l0
   with_reducible repeat' first|apply ih0|exact LeO.refl _|exact LeO.none _|apply m223|apply m224|apply m225|refine LeO.ite ?_ ?_|refine LeO.cnd_ ?_ ?_|refine LeO.bind ?_ (fun _=>?_)
theorem m188 (k:Nat) (x0:ByteArray) (x1:Int):LeO (FX188 k x0 x1) (FX188 (k+1) x0 x1):=by
 have ih0:=(m188l k)
 show LeO (B188 (GX188l0 k) (FX225 k) x0 x1) (B188 (GX188l0 (k+1)) (FX225 (k+1)) x0 x1)
 unfold B188
 with_reducible repeat' first|apply ih0|exact LeO.refl _|exact LeO.none _|apply m223|apply m224|apply m225|refine LeO.ite ?_ ?_|refine LeO.cnd_ ?_ ?_|refine LeO.bind ?_ (fun _=>?_)
theorem m187 (k:Nat) (x0:TI) (x1:Int):LeO (FX187 k x0 x1) (FX187 (k+1) x0 x1):=by
 show LeO (B187 (FX188 k) (FX192 k) x0 x1) (B187 (FX188 (k+1)) (FX192 (k+1)) x0 x1)
 unfold B187
 with_reducible repeat' first|exact LeO.refl _|exact LeO.none _|apply m188|apply m192|refine LeO.ite ?_ ?_|refine LeO.cnd_ ?_ ?_|refine LeO.bind ?_ (fun _=>?_)
theorem m143 (k:Nat) (x0:TQ) (x1:Int):LeO (FX143 k x0 x1) (FX143 (k+1) x0 x1):=by
 show LeO (B143 (FX187 k) (FX188 k) x0 x1) (B143 (FX187 (k+1)) (FX188 (k+1)) x0 x1)
 unfold B143
 with_reducible repeat' first|exact LeO.refl _|exact LeO.none _|apply m187|apply m188|refine LeO.ite ?_ ?_|refine LeO.cnd_ ?_ ?_|refine LeO.bind ?_ (fun _=>?_)
theorem m190 (k:Nat) (x0:TI):LeO (FX190 k x0) (FX190 (k+1) x0):=by
 show LeO (B190 (FX192 k) x0) (B190 (FX192 (k+1)) x0)
 unfold B190
 with_reducible repeat' first|exact LeO.refl _|exact LeO.none _|apply m192|refine LeO.ite ?_ ?_|refine LeO.cnd_ ?_ ?_|refine LeO.bind ?_ (fun _=>?_)
theorem m145 (k:Nat) (x0:TQ):LeO (FX145 k x0) (FX145 (k+1) x0):=by
 show LeO (B145 (FX190 k) x0) (B145 (FX190 (k+1)) x0)
 unfold B145
 with_reducible repeat' first|exact LeO.refl _|exact LeO.none _|apply m190|refine LeO.ite ?_ ?_|refine LeO.cnd_ ?_ ?_|refine LeO.bind ?_ (fun _=>?_)
theorem m226l:∀k,(∀(x8:Int) (x27:Int) (x28:Int) (x5:(List Int)) (x6:(List Int)) (x7:(List Int)),LeO (GX226l0 k x8 x27 x28 x5 x6 x7) (GX226l0 (k+1) x8 x27 x28 x5 x6 x7))
 |0=>fun _ _ _ _ _ _ r h=>by simp [GX226l0]at h
 |k+1=>by
  have ih0:=m226l k
  refine ?_
  ·intro x8 x27 x28 x5 x6 x7
   show LeO (B226l0 (GX226l0 k) (FX223 k) (FX247 k) x8 x27 x28 x5 x6 x7) (B226l0 (GX226l0 (k+1)) (FX223 (k+1)) (FX247 (k+1)) x8 x27 x28 x5 x6 x7)
   unfold B226l0
   with_reducible repeat' first|apply ih0|exact LeO.refl _|exact LeO.none _|apply m223|apply m225|apply m247|refine LeO.ite ?_ ?_|refine LeO.cnd_ ?_ ?_|refine LeO.bind ?_ (fun _=>?_)
theorem m226 (k:Nat) (x0:ByteArray) (x1:ByteArray):LeO (FX226 k x0 x1) (FX226 (k+1) x0 x1):=by
 have ih0:=(m226l k)
 show LeO (B226 (GX226l0 k) (FX225 k) x0 x1) (B226 (GX226l0 (k+1)) (FX225 (k+1)) x0 x1)
 unfold B226
 with_reducible repeat' first|apply ih0|exact LeO.refl _|exact LeO.none _|apply m223|apply m225|apply m247|refine LeO.ite ?_ ?_|refine LeO.cnd_ ?_ ?_|refine LeO.bind ?_ (fun _=>?_)
theorem m227 (k:Nat) (x0:ByteArray) (x1:ByteArray):LeO (FX227 k x0 x1) (FX227 (k+1) x0 x1):=by
 show LeO (B227 x0 x1) (B227 x0 x1)
 unfold B227
 with_reducible repeat' first|exact LeO.refl _|exact LeO.none _|refine LeO.ite ?_ ?_|refine LeO.cnd_ ?_ ?_|refine LeO.bind ?_ (fun _=>?_)
theorem m228l:∀k,(∀(x7:Int) (x15:Int) (x16:Int) (x5:(List Int)) (x6:(List Int)),LeO (GX228l0 k x7 x15 x16 x5 x6) (GX228l0 (k+1) x7 x15 x16 x5 x6))
 |0=>fun _ _ _ _ _ r h=>by simp [GX228l0]at h
 |k+1=>by
  have ih0:=m228l k
  refine ?_
  ·intro x7 x15 x16 x5 x6
   show LeO (B228l0 (GX228l0 k) (FX223 k) (FX248 k) x7 x15 x16 x5 x6) (B228l0 (GX228l0 (k+1)) (FX223 (k+1)) (FX248 (k+1)) x7 x15 x16 x5 x6)
   unfold B228l0
   with_reducible repeat' first|apply ih0|exact LeO.refl _|exact LeO.none _|apply m223|apply m225|apply m248|refine LeO.ite ?_ ?_|refine LeO.cnd_ ?_ ?_|refine LeO.bind ?_ (fun _=>?_)
theorem m228 (k:Nat) (x0:ByteArray) (x1:ByteArray):LeO (FX228 k x0 x1) (FX228 (k+1) x0 x1):=by
 have ih0:=(m228l k)
 show LeO (B228 (GX228l0 k) (FX225 k) x0 x1) (B228 (GX228l0 (k+1)) (FX225 (k+1)) x0 x1)
 unfold B228
 with_reducible repeat' first|apply ih0|exact LeO.refl _|exact LeO.none _|apply m223|apply m225|apply m248|refine LeO.ite ?_ ?_|refine LeO.cnd_ ?_ ?_|refine LeO.bind ?_ (fun _=>?_)
theorem m191 (k:Nat) (x0:TI) (x1:TI):LeO (FX191 k x0 x1) (FX191 (k+1) x0 x1):=by
 show LeO (B191 (FX192 k) (FX226 k) (FX227 k) (FX228 k) x0 x1) (B191 (FX192 (k+1)) (FX226 (k+1)) (FX227 (k+1)) (FX228 (k+1)) x0 x1)
 unfold B191
 with_reducible repeat' first|exact LeO.refl _|exact LeO.none _|apply m192|apply m226|apply m227|apply m228|refine LeO.ite ?_ ?_|refine LeO.cnd_ ?_ ?_|refine LeO.bind ?_ (fun _=>?_)
theorem m148 (k:Nat) (x0:TQ) (x1:TQ):LeO (FX148 k x0 x1) (FX148 (k+1) x0 x1):=by
 show LeO (B148 (FX149 k) (FX185 k) (FX186 k) (FX191 k) (FX192 k) x0 x1) (B148 (FX149 (k+1)) (FX185 (k+1)) (FX186 (k+1)) (FX191 (k+1)) (FX192 (k+1)) x0 x1)
 unfold B148
 with_reducible repeat' first|exact LeO.refl _|exact LeO.none _|apply m149|apply m185|apply m186|apply m191|apply m192|refine LeO.ite ?_ ?_|refine LeO.cnd_ ?_ ?_|refine LeO.bind ?_ (fun _=>?_)
theorem m88 (k:Nat) (x0:TQ) (x1:TQ):LeO (FX88 k x0 x1) (FX88 (k+1) x0 x1):=by
 show LeO (B88 (FX145 k) (FX148 k) x0 x1) (B88 (FX145 (k+1)) (FX148 (k+1)) x0 x1)
 unfold B88
 with_reducible repeat' first|exact LeO.refl _|exact LeO.none _|apply m145|apply m148|refine LeO.ite ?_ ?_|refine LeO.cnd_ ?_ ?_|refine LeO.bind ?_ (fun _=>?_)
theorem m92l:∀k,(∀(x0:(List TQ)) (x3:Int),LeO (GX92l0 k x0 x3) (GX92l0 (k+1) x0 x3))
 |0=>fun _ _ r h=>by simp [GX92l0]at h
 |k+1=>by
  have ih0:=m92l k
  refine ?_
  ·intro x0 x3
   show LeO (B92l0 (GX92l0 k) (FX152 k) x0 x3) (B92l0 (GX92l0 (k+1)) (FX152 (k+1)) x0 x3)
   unfold B92l0
   with_reducible repeat' first|apply ih0|exact LeO.refl _|exact LeO.none _|apply m152|refine LeO.ite ?_ ?_|refine LeO.cnd_ ?_ ?_|refine LeO.bind ?_ (fun _=>?_)
theorem m92 (k:Nat) (x0:(List TQ)):LeO (FX92 k x0) (FX92 (k+1) x0):=by
 have ih0:=(m92l k)
 show LeO (B92 (GX92l0 k) x0) (B92 (GX92l0 (k+1)) x0)
 rw [B92.eq_1,B92.eq_1]
 with_reducible repeat' first|apply ih0|exact LeO.refl _|exact LeO.none _|apply m152|refine LeO.ite ?_ ?_|refine LeO.cnd_ ?_ ?_|refine LeO.bind ?_ (fun _=>?_)
theorem m147 (k:Nat) (x0:TQ):LeO (FX147 k x0) (FX147 (k+1) x0):=by
 show LeO (B147 x0) (B147 x0)
 unfold B147
 with_reducible repeat' first|exact LeO.refl _|exact LeO.none _|refine LeO.ite ?_ ?_|refine LeO.cnd_ ?_ ?_|refine LeO.bind ?_ (fun _=>?_)
theorem m144l:∀k,(∀(x0:(List TQ)) (x1:(List TQ)) (x7:Int) (x30:Int) (x31:Int) (x6:(List TQ)) (x8:(List TQ)),LeO (GX144l0 k x0 x1 x7 x30 x31 x6 x8) (GX144l0 (k+1) x0 x1 x7 x30 x31 x6 x8))∧(∀(x1:(List TQ)) (x7:Int) (x11:Int) (x6:(List TQ)) (x8:(List TQ)) (x10:TQ),LeO (GX144l1 k x1 x7 x11 x6 x8 x10) (GX144l1 (k+1) x1 x7 x11 x6 x8 x10))∧(∀(x1:(List TQ)) (x7:Int) (x11:Int) (x69:Int) (x70:Int) (x6:(List TQ)) (x8:(List TQ)) (x10:TQ) (x12:TQ),LeO (GX144l2 k x1 x7 x11 x69 x70 x6 x8 x10 x12) (GX144l2 (k+1) x1 x7 x11 x69 x70 x6 x8 x10 x12))
 |0=>⟨fun _ _ _ _ _ _ _ r h=>by simp [GX144l0]at h,fun _ _ _ _ _ _ r h=>by simp [GX144l1]at h,fun _ _ _ _ _ _ _ _ _ r h=>by simp [GX144l2]at h⟩
 |k+1=>by
  obtain⟨ih0,ih1,ih2⟩:=m144l k
  refine⟨?_,?_,?_⟩
  ·intro x0 x1 x7 x30 x31 x6 x8
   show LeO (B144l0 (GX144l0 k) (GX144l1 k) (FX89 k) (FX147 k) x0 x1 x7 x30 x31 x6 x8) (B144l0 (GX144l0 (k+1)) (GX144l1 (k+1)) (FX89 (k+1)) (FX147 (k+1)) x0 x1 x7 x30 x31 x6 x8)
   unfold B144l0
   with_reducible repeat' first|apply ih0|apply ih1|apply ih2|exact LeO.refl _|exact LeO.none _|apply m88|apply m89|apply m92|apply m142|apply m147|apply m152|apply m189|refine LeO.ite ?_ ?_|refine LeO.cnd_ ?_ ?_|refine LeO.bind ?_ (fun _=>?_)
  ·intro x1 x7 x11 x6 x8 x10
   show LeO (B144l1 (GX144l1 k) (GX144l2 k) (FX92 k) (FX142 k) (FX152 k) x1 x7 x11 x6 x8 x10) (B144l1 (GX144l1 (k+1)) (GX144l2 (k+1)) (FX92 (k+1)) (FX142 (k+1)) (FX152 (k+1)) x1 x7 x11 x6 x8 x10)
   unfold B144l1
   with_reducible repeat' first|apply ih0|apply ih1|apply ih2|exact LeO.refl _|exact LeO.none _|apply m88|apply m89|apply m92|apply m142|apply m147|apply m152|apply m189|refine LeO.ite ?_ ?_|refine LeO.cnd_ ?_ ?_|refine LeO.bind ?_ (fun _=>?_)
  ·intro x1 x7 x11 x69 x70 x6 x8 x10 x12
   show LeO (B144l2 (GX144l1 k) (GX144l2 k) (FX88 k) (FX142 k) x1 x7 x11 x69 x70 x6 x8 x10 x12) (B144l2 (GX144l1 (k+1)) (GX144l2 (k+1)) (FX88 (k+1)) (FX142 (k+1)) x1 x7 x11 x69 x70 x6 x8 x10 x12)
   unfold B144l2
   with_reducible repeat' first|apply ih0|apply ih1|apply ih2|exact LeO.refl _|exact LeO.none _|apply m88|apply m89|apply m92|apply m142|apply m147|apply m152|apply m189|refine LeO.ite ?_ ?_|refine LeO.cnd_ ?_ ?_|refine LeO.bind ?_ (fun _=>?_)
theorem m144 (k:Nat) (x0:(List TQ)) (x1:(List TQ)):LeO (FX144 k x0 x1) (FX144 (k+1) x0 x1):=by
 have ih0:=(m144l k).1
 have ih1:=(m144l k).2.1
 have ih2:=(m144l k).2.2
 show LeO (B144 (GX144l0 k) (FX189 k) x0 x1) (B144 (GX144l0 (k+1)) (FX189 (k+1)) x0 x1)
 unfold B144
 with_reducible repeat' first|apply ih0|apply ih1|apply ih2|exact LeO.refl _|exact LeO.none _|apply m88|apply m89|apply m92|apply m142|apply m147|apply m152|apply m189|refine LeO.ite ?_ ?_|refine LeO.cnd_ ?_ ?_|refine LeO.bind ?_ (fun _=>?_)
theorem m84l:∀k,(∀(x0:(List TQ)) (x1:(List TQ)) (x4:TQ) (x5:TQ),LeO (GX84l0 k x0 x1 x4 x5) (GX84l0 (k+1) x0 x1 x4 x5))
 |0=>fun _ _ _ _ r h=>by simp [GX84l0]at h
 |k+1=>by
  have ih0:=m84l k
  refine ?_
  ·intro x0 x1 x4 x5
   show LeO (B84l0 (GX84l0 k) (FX89 k) (FX142 k) (FX143 k) (FX144 k) (FX145 k) x0 x1 x4 x5) (B84l0 (GX84l0 (k+1)) (FX89 (k+1)) (FX142 (k+1)) (FX143 (k+1)) (FX144 (k+1)) (FX145 (k+1)) x0 x1 x4 x5)
   unfold B84l0
   with_reducible repeat' first|apply ih0|exact LeO.refl _|exact LeO.none _|apply m89|apply m142|apply m143|apply m144|apply m145|refine LeO.ite ?_ ?_|refine LeO.cnd_ ?_ ?_|refine LeO.bind ?_ (fun _=>?_)
theorem m84 (k:Nat) (x0:(List TQ)) (x1:(List TQ)):LeO (FX84 k x0 x1) (FX84 (k+1) x0 x1):=by
 have ih0:=(m84l k)
 show LeO (B84 (GX84l0 k) (FX89 k) x0 x1) (B84 (GX84l0 (k+1)) (FX89 (k+1)) x0 x1)
 unfold B84
 with_reducible repeat' first|apply ih0|exact LeO.refl _|exact LeO.none _|apply m89|apply m142|apply m143|apply m144|apply m145|refine LeO.ite ?_ ?_|refine LeO.cnd_ ?_ ?_|refine LeO.bind ?_ (fun _=>?_)
theorem m151 (k:Nat) (x0:(List TQ)) (x1:Int):LeO (FX151 k x0 x1) (FX151 (k+1) x0 x1):=by
 show LeO (B151 (FX89 k) x0 x1) (B151 (FX89 (k+1)) x0 x1)
 unfold B151
 with_reducible repeat' first|exact LeO.refl _|exact LeO.none _|apply m89|refine LeO.ite ?_ ?_|refine LeO.cnd_ ?_ ?_|refine LeO.bind ?_ (fun _=>?_)
theorem m90l:∀k,(∀(x0:(List TQ)) (x1:(List TQ)) (x14:Int) (x15:Int) (x5:(List TQ)),LeO (GX90l0 k x0 x1 x14 x15 x5) (GX90l0 (k+1) x0 x1 x14 x15 x5))
 |0=>fun _ _ _ _ _ r h=>by simp [GX90l0]at h
 |k+1=>by
  have ih0:=m90l k
  refine ?_
  ·intro x0 x1 x14 x15 x5
   show LeO (B90l0 (GX90l0 k) (FX92 k) (FX148 k) (FX151 k) x0 x1 x14 x15 x5) (B90l0 (GX90l0 (k+1)) (FX92 (k+1)) (FX148 (k+1)) (FX151 (k+1)) x0 x1 x14 x15 x5)
   unfold B90l0
   with_reducible repeat' first|apply ih0|exact LeO.refl _|exact LeO.none _|apply m92|apply m148|apply m151|refine LeO.ite ?_ ?_|refine LeO.cnd_ ?_ ?_|refine LeO.bind ?_ (fun _=>?_)
theorem m90 (k:Nat) (x0:(List TQ)) (x1:(List TQ)):LeO (FX90 k x0 x1) (FX90 (k+1) x0 x1):=by
 have ih0:=(m90l k)
 show LeO (B90 (GX90l0 k) x0 x1) (B90 (GX90l0 (k+1)) x0 x1)
 unfold B90
 with_reducible repeat' first|apply ih0|exact LeO.refl _|exact LeO.none _|apply m92|apply m148|apply m151|refine LeO.ite ?_ ?_|refine LeO.cnd_ ?_ ?_|refine LeO.bind ?_ (fun _=>?_)
theorem m91l:∀k,(∀(x0:(List TQ)) (x1:(List TQ)) (x27:Int) (x28:Int) (x5:(List TQ)),LeO (GX91l0 k x0 x1 x27 x28 x5) (GX91l0 (k+1) x0 x1 x27 x28 x5))∧(∀(x1:(List TQ)) (x36:(List TQ)) (x37:Int) (x38:Int) (x5:(List TQ)),LeO (GX91l1 k x1 x36 x37 x38 x5) (GX91l1 (k+1) x1 x36 x37 x38 x5))∧(∀(x1:(List TQ)) (x7:Int) (x36:(List TQ)) (x37:Int) (x38:Int) (x45:(List TQ)) (x46:Int) (x47:Int) (x5:(List TQ)) (x8:TQ),LeO (GX91l2 k x1 x7 x36 x37 x38 x45 x46 x47 x5 x8) (GX91l2 (k+1) x1 x7 x36 x37 x38 x45 x46 x47 x5 x8))
 |0=>⟨fun _ _ _ _ _ r h=>by simp [GX91l0]at h,fun _ _ _ _ _ r h=>by simp [GX91l1]at h,fun _ _ _ _ _ _ _ _ _ _ r h=>by simp [GX91l2]at h⟩
 |k+1=>by
  obtain⟨ih0,ih1,ih2⟩:=m91l k
  refine⟨?_,?_,?_⟩
  ·intro x0 x1 x27 x28 x5
   show LeO (B91l0 (GX91l0 k) (GX91l1 k) (FX89 k) x0 x1 x27 x28 x5) (B91l0 (GX91l0 (k+1)) (GX91l1 (k+1)) (FX89 (k+1)) x0 x1 x27 x28 x5)
   unfold B91l0
   with_reducible repeat' first|apply ih0|apply ih1|apply ih2|exact LeO.refl _|exact LeO.none _|apply m89|apply m92|apply m142|apply m148|apply m152|refine LeO.ite ?_ ?_|refine LeO.cnd_ ?_ ?_|refine LeO.bind ?_ (fun _=>?_)
  ·intro x1 x36 x37 x38 x5
   show LeO (B91l1 (GX91l1 k) (GX91l2 k) (FX92 k) (FX152 k) x1 x36 x37 x38 x5) (B91l1 (GX91l1 (k+1)) (GX91l2 (k+1)) (FX92 (k+1)) (FX152 (k+1)) x1 x36 x37 x38 x5)
   unfold B91l1
   with_reducible repeat' first|apply ih0|apply ih1|apply ih2|exact LeO.refl _|exact LeO.none _|apply m89|apply m92|apply m142|apply m148|apply m152|refine LeO.ite ?_ ?_|refine LeO.cnd_ ?_ ?_|refine LeO.bind ?_ (fun _=>?_)
  ·intro x1 x7 x36 x37 x38 x45 x46 x47 x5 x8
   show LeO (B91l2 (GX91l1 k) (GX91l2 k) (FX142 k) (FX148 k) x1 x7 x36 x37 x38 x45 x46 x47 x5 x8) (B91l2 (GX91l1 (k+1)) (GX91l2 (k+1)) (FX142 (k+1)) (FX148 (k+1)) x1 x7 x36 x37 x38 x45 x46 x47 x5 x8)
   unfold B91l2
   with_reducible repeat' first|apply ih0|apply ih1|apply ih2|exact LeO.refl _|exact LeO.none _|apply m89|apply m92|apply m142|apply m148|apply m152|refine LeO.ite ?_ ?_|refine LeO.cnd_ ?_ ?_|refine LeO.bind ?_ (fun _=>?_)
theorem m91 (k:Nat) (x0:(List TQ)) (x1:(List TQ)):LeO (FX91 k x0 x1) (FX91 (k+1) x0 x1):=by
 have ih0:=(m91l k).1
 have ih1:=(m91l k).2.1
 have ih2:=(m91l k).2.2
 show LeO (B91 (GX91l0 k) x0 x1) (B91 (GX91l0 (k+1)) x0 x1)
 unfold B91
 with_reducible repeat' first|apply ih0|apply ih1|apply ih2|exact LeO.refl _|exact LeO.none _|apply m89|apply m92|apply m142|apply m148|apply m152|refine LeO.ite ?_ ?_|refine LeO.cnd_ ?_ ?_|refine LeO.bind ?_ (fun _=>?_)
theorem m165 (k:Nat) (x0:(List TQ)) (x1:(List TQ)):LeO (FX165 k x0 x1) (FX165 (k+1) x0 x1):=by
 show LeO (B165 (FX144 k) x0 x1) (B165 (FX144 (k+1)) x0 x1)
 unfold B165
 with_reducible repeat' first|exact LeO.refl _|exact LeO.none _|apply m144|refine LeO.ite ?_ ?_|refine LeO.cnd_ ?_ ?_|refine LeO.bind ?_ (fun _=>?_)
theorem m146 (k:Nat) (x0:(List TQ)) (x1:(List TQ)) (x2:(List TQ)):LeO (FX146 k x0 x1 x2) (FX146 (k+1) x0 x1 x2):=by
 show LeO (B146 (FX91 k) (FX165 k) x0 x1 x2) (B146 (FX91 (k+1)) (FX165 (k+1)) x0 x1 x2)
 unfold B146
 with_reducible repeat' first|exact LeO.refl _|exact LeO.none _|apply m91|apply m165|refine LeO.ite ?_ ?_|refine LeO.cnd_ ?_ ?_|refine LeO.bind ?_ (fun _=>?_)
theorem m85l:∀k,(∀(x1:(List (List TQ))) (x2:(List TQ)) (x7:(List TQ)) (x8:Int) (x3:(List TQ)),LeO (GX85l0 k x1 x2 x7 x8 x3) (GX85l0 (k+1) x1 x2 x7 x8 x3))
 |0=>fun _ _ _ _ _ r h=>by simp [GX85l0]at h
 |k+1=>by
  have ih0:=m85l k
  refine ?_
  ·intro x1 x2 x7 x8 x3
   show LeO (B85l0 (GX85l0 k) (FX90 k) (FX146 k) x1 x2 x7 x8 x3) (B85l0 (GX85l0 (k+1)) (FX90 (k+1)) (FX146 (k+1)) x1 x2 x7 x8 x3)
   unfold B85l0
   with_reducible repeat' first|apply ih0|exact LeO.refl _|exact LeO.none _|apply m90|apply m146|refine LeO.ite ?_ ?_|refine LeO.cnd_ ?_ ?_|refine LeO.bind ?_ (fun _=>?_)
theorem m85 (k:Nat) (x0:(List TQ)) (x1:(List (List TQ))) (x2:(List TQ)):LeO (FX85 k x0 x1 x2) (FX85 (k+1) x0 x1 x2):=by
 have ih0:=(m85l k)
 show LeO (B85 (GX85l0 k) x0 x1 x2) (B85 (GX85l0 (k+1)) x0 x1 x2)
 rw [B85.eq_1,B85.eq_1]
 with_reducible repeat' first|apply ih0|exact LeO.refl _|exact LeO.none _|apply m90|apply m146|refine LeO.ite ?_ ?_|refine LeO.cnd_ ?_ ?_|refine LeO.bind ?_ (fun _=>?_)
theorem m86l:∀k,(∀(x9:(List Int)) (x10:Int) (x11:Int) (x3:(List TQ)),LeO (GX86l0 k x9 x10 x11 x3) (GX86l0 (k+1) x9 x10 x11 x3))
 |0=>fun _ _ _ _ r h=>by simp [GX86l0]at h
 |k+1=>by
  have ih0:=m86l k
  refine ?_
  ·intro x9 x10 x11 x3
   show LeO (B86l0 (GX86l0 k) (FX89 k) (FX92 k) x9 x10 x11 x3) (B86l0 (GX86l0 (k+1)) (FX89 (k+1)) (FX92 (k+1)) x9 x10 x11 x3)
   unfold B86l0
   with_reducible repeat' first|apply ih0|exact LeO.refl _|exact LeO.none _|apply m89|apply m92|refine LeO.ite ?_ ?_|refine LeO.cnd_ ?_ ?_|refine LeO.bind ?_ (fun _=>?_)
theorem m86 (k:Nat) (x0:(List Int)):LeO (FX86 k x0) (FX86 (k+1) x0):=by
 have ih0:=(m86l k)
 show LeO (B86 (GX86l0 k) x0) (B86 (GX86l0 (k+1)) x0)
 unfold B86
 with_reducible repeat' first|apply ih0|exact LeO.refl _|exact LeO.none _|apply m89|apply m92|refine LeO.ite ?_ ?_|refine LeO.cnd_ ?_ ?_|refine LeO.bind ?_ (fun _=>?_)
theorem m87 (k:Nat) (x0:TQ) (x1:TQ):LeO (FX87 k x0 x1) (FX87 (k+1) x0 x1):=by
 show LeO (B87 (FX142 k) (FX147 k) x0 x1) (B87 (FX142 (k+1)) (FX147 (k+1)) x0 x1)
 unfold B87
 with_reducible repeat' first|exact LeO.refl _|exact LeO.none _|apply m142|apply m147|refine LeO.ite ?_ ?_|refine LeO.cnd_ ?_ ?_|refine LeO.bind ?_ (fun _=>?_)
theorem m154 (k:Nat) (x0:TQ):LeO (FX154 k x0) (FX154 (k+1) x0):=by
 show LeO (B154 x0) (B154 x0)
 unfold B154
 with_reducible repeat' first|exact LeO.refl _|exact LeO.none _|refine LeO.ite ?_ ?_|refine LeO.cnd_ ?_ ?_|refine LeO.bind ?_ (fun _=>?_)
theorem m194Largel:∀k,(∀(x0:(List TQ)) (x7:Int) (x8:Int),LeO (GX194Largel0 k x0 x7 x8) (GX194Largel0 (k+1) x0 x7 x8))
 |0=>fun _ _ _ r h=>by simp [GX194Largel0]at h
 |k+1=>by
  have ih0:=m194Largel k
  refine ?_
  ·intro x0 x7 x8
   show LeO (B194Largel0 (GX194Largel0 k) (FX154 k) x0 x7 x8) (B194Largel0 (GX194Largel0 (k+1)) (FX154 (k+1)) x0 x7 x8)
   unfold B194Largel0
   with_reducible repeat' first|apply ih0|exact LeO.refl _|exact LeO.none _|apply m154|refine LeO.ite ?_ ?_|refine LeO.cnd_ ?_ ?_|refine LeO.bind ?_ (fun _=>?_)
theorem m194Large (k:Nat) (x0:(List TQ)):LeO (FX194Large k x0) (FX194Large (k+1) x0):=by
 have ih0:=(m194Largel k)
 show LeO (B194Large (GX194Largel0 k) x0) (B194Large (GX194Largel0 (k+1)) x0)
 rw [B194Large.eq_1,B194Large.eq_1]
 with_reducible repeat' first|apply ih0|exact LeO.refl _|exact LeO.none _|apply m154|refine LeO.ite ?_ ?_|refine LeO.cnd_ ?_ ?_|refine LeO.bind ?_ (fun _=>?_)
theorem m153Large (k:Nat) (x0:(List TQ)):LeO (FX153Large k x0) (FX153Large (k+1) x0):=by
 show LeO (B153Large (FX194Large k) x0) (B153Large (FX194Large (k+1)) x0)
 unfold B153Large
 with_reducible repeat' first|exact LeO.refl _|exact LeO.none _|apply m194Large|refine LeO.ite ?_ ?_|refine LeO.cnd_ ?_ ?_|refine LeO.bind ?_ (fun _=>?_)
theorem m93 (k:Nat) (x0:(List TQ)):LeO (FX93 k x0) (FX93 (k+1) x0):=by
 show LeO (B93 (FX153Large k) x0) (B93 (FX153Large (k+1)) x0)
 unfold B93
 with_reducible repeat' first|exact LeO.refl _|exact LeO.none _|apply m153Large|refine LeO.ite ?_ ?_|refine LeO.cnd_ ?_ ?_|refine LeO.bind ?_ (fun _=>?_)
theorem m17l:∀k,(∀(x1:(List (List TQ))) (x7:Int) (x38:Int) (x39:Int) (x2:(List TQ)) (x8:(List TQ)),LeO (GX17l0 k x1 x7 x38 x39 x2 x8) (GX17l0 (k+1) x1 x7 x38 x39 x2 x8))∧(∀(x7:Int) (x10:Int) (x8:(List TQ)),LeO (GX17l1 k x7 x10 x8) (GX17l1 (k+1) x7 x10 x8))∧(∀(x7:Int) (x10:Int) (x11:Int) (x8:(List TQ)),LeO (GX17l2 k x7 x10 x11 x8) (GX17l2 (k+1) x7 x10 x11 x8))∧(∀(x12:(List TQ)) (x13:Int) (x8:(List TQ)),LeO (GX17l3 k x12 x13 x8) (GX17l3 (k+1) x12 x13 x8))
 |0=>⟨fun _ _ _ _ _ _ r h=>by simp [GX17l0]at h,fun _ _ _ r h=>by simp [GX17l1]at h,fun _ _ _ _ r h=>by simp [GX17l2]at h,fun _ _ _ r h=>by simp [GX17l3]at h⟩
 |k+1=>by
  obtain⟨ih0,ih1,ih2,ih3⟩:=m17l k
  refine⟨?_,?_,?_,?_⟩
  ·intro x1 x7 x38 x39 x2 x8
   show LeO (B17l0 (GX17l0 k) (GX17l1 k) (FX84 k) (FX85 k) (FX86 k) x1 x7 x38 x39 x2 x8) (B17l0 (GX17l0 (k+1)) (GX17l1 (k+1)) (FX84 (k+1)) (FX85 (k+1)) (FX86 (k+1)) x1 x7 x38 x39 x2 x8)
   unfold B17l0
   with_reducible repeat' first|apply ih0|apply ih1|apply ih2|apply ih3|exact LeO.refl _|exact LeO.none _|apply m83|apply m84|apply m85|apply m86|apply m87|apply m88|apply m89|apply m90|apply m91|apply m92|apply m93|refine LeO.ite ?_ ?_|refine LeO.cnd_ ?_ ?_|refine LeO.bind ?_ (fun _=>?_)
  ·intro x7 x10 x8
   show LeO (B17l1 (GX17l2 k) (GX17l3 k) x7 x10 x8) (B17l1 (GX17l2 (k+1)) (GX17l3 (k+1)) x7 x10 x8)
   unfold B17l1
   with_reducible repeat' first|apply ih0|apply ih1|apply ih2|apply ih3|exact LeO.refl _|exact LeO.none _|apply m83|apply m84|apply m85|apply m86|apply m87|apply m88|apply m89|apply m90|apply m91|apply m92|apply m93|refine LeO.ite ?_ ?_|refine LeO.cnd_ ?_ ?_|refine LeO.bind ?_ (fun _=>?_)
  ·intro x7 x10 x11 x8
   show LeO (B17l2 (GX17l1 k) (GX17l2 k) (FX87 k) (FX88 k) (FX89 k) x7 x10 x11 x8) (B17l2 (GX17l1 (k+1)) (GX17l2 (k+1)) (FX87 (k+1)) (FX88 (k+1)) (FX89 (k+1)) x7 x10 x11 x8)
   unfold B17l2
   with_reducible repeat' first|apply ih0|apply ih1|apply ih2|apply ih3|exact LeO.refl _|exact LeO.none _|apply m83|apply m84|apply m85|apply m86|apply m87|apply m88|apply m89|apply m90|apply m91|apply m92|apply m93|refine LeO.ite ?_ ?_|refine LeO.cnd_ ?_ ?_|refine LeO.bind ?_ (fun _=>?_)
  ·intro x12 x13 x8
   show LeO (B17l3 (GX17l3 k) (FX86 k) (FX90 k) (FX91 k) (FX92 k) (FX93 k) x12 x13 x8) (B17l3 (GX17l3 (k+1)) (FX86 (k+1)) (FX90 (k+1)) (FX91 (k+1)) (FX92 (k+1)) (FX93 (k+1)) x12 x13 x8)
   unfold B17l3
   with_reducible repeat' first|apply ih0|apply ih1|apply ih2|apply ih3|exact LeO.refl _|exact LeO.none _|apply m83|apply m84|apply m85|apply m86|apply m87|apply m88|apply m89|apply m90|apply m91|apply m92|apply m93|refine LeO.ite ?_ ?_|refine LeO.cnd_ ?_ ?_|refine LeO.bind ?_ (fun _=>?_)
theorem m17 (k:Nat) (x0:(List TQ)) (x1:(List (List TQ))):LeO (FX17 k x0 x1) (FX17 (k+1) x0 x1):=by
 have ih0:=(m17l k).1
 have ih1:=(m17l k).2.1
 have ih2:=(m17l k).2.2.1
 have ih3:=(m17l k).2.2.2
 show LeO (B17 (GX17l0 k) (FX83 k) x0 x1) (B17 (GX17l0 (k+1)) (FX83 (k+1)) x0 x1)
 unfold B17
 with_reducible repeat' first|apply ih0|apply ih1|apply ih2|apply ih3|exact LeO.refl _|exact LeO.none _|apply m83|apply m84|apply m85|apply m86|apply m87|apply m88|apply m89|apply m90|apply m91|apply m92|apply m93|refine LeO.ite ?_ ?_|refine LeO.cnd_ ?_ ?_|refine LeO.bind ?_ (fun _=>?_)
theorem m18l:∀k,(∀(x0:(List TQ)) (x1:(List TQ)) (x12:Int) (x13:Int),LeO (GX18l0 k x0 x1 x12 x13) (GX18l0 (k+1) x0 x1 x12 x13))
 |0=>fun _ _ _ _ r h=>by simp [GX18l0]at h
 |k+1=>by
  have ih0:=m18l k
  refine ?_
  ·intro x0 x1 x12 x13
   show LeO (B18l0 (GX18l0 k) x0 x1 x12 x13) (B18l0 (GX18l0 (k+1)) x0 x1 x12 x13)
   unfold B18l0
   with_reducible repeat' first|apply ih0|exact LeO.refl _|exact LeO.none _|refine LeO.ite ?_ ?_|refine LeO.cnd_ ?_ ?_|refine LeO.bind ?_ (fun _=>?_)
theorem m18 (k:Nat) (x0:(List TQ)) (x1:(List TQ)):LeO (FX18 k x0 x1) (FX18 (k+1) x0 x1):=by
 have ih0:=(m18l k)
 show LeO (B18 (GX18l0 k) x0 x1) (B18 (GX18l0 (k+1)) x0 x1)
 unfold B18
 with_reducible repeat' first|apply ih0|exact LeO.refl _|exact LeO.none _|refine LeO.ite ?_ ?_|refine LeO.cnd_ ?_ ?_|refine LeO.bind ?_ (fun _=>?_)
theorem m173 (k:Nat) (x0:TI):LeO (FX173 k x0) (FX173 (k+1) x0):=by
 show LeO (B173 x0) (B173 x0)
 unfold B173
 with_reducible repeat' first|exact LeO.refl _|exact LeO.none _|refine LeO.ite ?_ ?_|refine LeO.cnd_ ?_ ?_|refine LeO.bind ?_ (fun _=>?_)
theorem m123 (k:Nat) (x0:TQ):LeO (FX123 k x0) (FX123 (k+1) x0):=by
 show LeO (B123 (FX173 k) x0) (B123 (FX173 (k+1)) x0)
 unfold B123
 with_reducible repeat' first|exact LeO.refl _|exact LeO.none _|apply m173|refine LeO.ite ?_ ?_|refine LeO.cnd_ ?_ ?_|refine LeO.bind ?_ (fun _=>?_)
theorem m48l:∀k,(∀(x0:(List TQ)) (x3:Int),LeO (GX48l0 k x0 x3) (GX48l0 (k+1) x0 x3))
 |0=>fun _ _ r h=>by simp [GX48l0]at h
 |k+1=>by
  have ih0:=m48l k
  refine ?_
  ·intro x0 x3
   show LeO (B48l0 (GX48l0 k) (FX123 k) x0 x3) (B48l0 (GX48l0 (k+1)) (FX123 (k+1)) x0 x3)
   unfold B48l0
   with_reducible repeat' first|apply ih0|exact LeO.refl _|exact LeO.none _|apply m123|refine LeO.ite ?_ ?_|refine LeO.cnd_ ?_ ?_|refine LeO.bind ?_ (fun _=>?_)
theorem m48 (k:Nat) (x0:(List TQ)):LeO (FX48 k x0) (FX48 (k+1) x0):=by
 have ih0:=(m48l k)
 show LeO (B48 (GX48l0 k) x0) (B48 (GX48l0 (k+1)) x0)
 rw [B48.eq_1,B48.eq_1]
 with_reducible repeat' first|apply ih0|exact LeO.refl _|exact LeO.none _|apply m123|refine LeO.ite ?_ ?_|refine LeO.cnd_ ?_ ?_|refine LeO.bind ?_ (fun _=>?_)
theorem m221l:∀k,(∀(x0:(List Int)) (x4:Int) (x3:(List Int)),LeO (GX221l0 k x0 x4 x3) (GX221l0 (k+1) x0 x4 x3))∧(∀(x0:(List Int)) (x4:Int) (x5:Int) (x3:(List Int)),LeO (GX221l1 k x0 x4 x5 x3) (GX221l1 (k+1) x0 x4 x5 x3))
 |0=>⟨fun _ _ _ r h=>by simp [GX221l0]at h,fun _ _ _ _ r h=>by simp [GX221l1]at h⟩
 |k+1=>by
  obtain⟨ih0,ih1⟩:=m221l k
  refine⟨?_,?_⟩
  ·intro x0 x4 x3
   show LeO (B221l0 (GX221l1 k) x0 x4 x3) (B221l0 (GX221l1 (k+1)) x0 x4 x3)
   unfold B221l0
   with_reducible repeat' first|apply ih0|apply ih1|exact LeO.refl _|exact LeO.none _|refine LeO.ite ?_ ?_|refine LeO.cnd_ ?_ ?_|refine LeO.bind ?_ (fun _=>?_)
  ·intro x0 x4 x5 x3
   show LeO (B221l1 (GX221l0 k) (GX221l1 k) x0 x4 x5 x3) (B221l1 (GX221l0 (k+1)) (GX221l1 (k+1)) x0 x4 x5 x3)
   unfold B221l1
   with_reducible repeat' first|apply ih0|apply ih1|exact LeO.refl _|exact LeO.none _|refine LeO.ite ?_ ?_|refine LeO.cnd_ ?_ ?_|refine LeO.bind ?_ (fun _=>?_)
theorem m221 (k:Nat) (x0:(List Int)):LeO (FX221 k x0) (FX221 (k+1) x0):=by
 have ih0:=(m221l k).1
 have ih1:=(m221l k).2
 show LeO (B221 (GX221l0 k) x0) (B221 (GX221l0 (k+1)) x0)
 rw [B221.eq_1,B221.eq_1]
 with_reducible repeat' first|apply ih0|apply ih1|exact LeO.refl _|exact LeO.none _|refine LeO.ite ?_ ?_|refine LeO.cnd_ ?_ ?_|refine LeO.bind ?_ (fun _=>?_)
theorem m183 (k:Nat) (x0:Int):LeO (FX183 k x0) (FX183 (k+1) x0):=by
 show LeO (B183 (FX221 k) x0) (B183 (FX221 (k+1)) x0)
 unfold B183
 with_reducible repeat' first|exact LeO.refl _|exact LeO.none _|apply m221|refine LeO.ite ?_ ?_|refine LeO.cnd_ ?_ ?_|refine LeO.bind ?_ (fun _=>?_)
theorem m141 (k:Nat) (x0:Int):LeO (FX141 k x0) (FX141 (k+1) x0):=by
 show LeO (B141 (FX183 k) x0) (B141 (FX183 (k+1)) x0)
 unfold B141
 with_reducible repeat' first|exact LeO.refl _|exact LeO.none _|apply m183|refine LeO.ite ?_ ?_|refine LeO.cnd_ ?_ ?_|refine LeO.bind ?_ (fun _=>?_)
theorem m81 (k:Nat) (x0:Int):LeO (FX81 k x0) (FX81 (k+1) x0):=by
 show LeO (B81 (FX141 k) x0) (B81 (FX141 (k+1)) x0)
 unfold B81
 with_reducible repeat' first|exact LeO.refl _|exact LeO.none _|apply m141|refine LeO.ite ?_ ?_|refine LeO.cnd_ ?_ ?_|refine LeO.bind ?_ (fun _=>?_)
theorem m22l:∀k,(∀(x6:(List Int)) (x7:Int) (x8:Int) (x3:(List TQ)),LeO (GX22l0 k x6 x7 x8 x3) (GX22l0 (k+1) x6 x7 x8 x3))
 |0=>fun _ _ _ _ r h=>by simp [GX22l0]at h
 |k+1=>by
  have ih0:=m22l k
  refine ?_
  ·intro x6 x7 x8 x3
   show LeO (B22l0 (GX22l0 k) (FX48 k) (FX81 k) x6 x7 x8 x3) (B22l0 (GX22l0 (k+1)) (FX48 (k+1)) (FX81 (k+1)) x6 x7 x8 x3)
   unfold B22l0
   with_reducible repeat' first|apply ih0|exact LeO.refl _|exact LeO.none _|apply m48|apply m81|refine LeO.ite ?_ ?_|refine LeO.cnd_ ?_ ?_|refine LeO.bind ?_ (fun _=>?_)
theorem m22 (k:Nat) (x0:(List Int)):LeO (FX22 k x0) (FX22 (k+1) x0):=by
 have ih0:=(m22l k)
 show LeO (B22 (GX22l0 k) x0) (B22 (GX22l0 (k+1)) x0)
 rw [B22.eq_1,B22.eq_1]
 with_reducible repeat' first|apply ih0|exact LeO.refl _|exact LeO.none _|apply m48|apply m81|refine LeO.ite ?_ ?_|refine LeO.cnd_ ?_ ?_|refine LeO.bind ?_ (fun _=>?_)
theorem m137l:∀k,(∀(x11:(List TQ)) (x12:Int) (x13:Int) (x3:TQ) (x5:(List TQ)),LeO (GX137l0 k x11 x12 x13 x3 x5) (GX137l0 (k+1) x11 x12 x13 x3 x5))
 |0=>fun _ _ _ _ _ r h=>by simp [GX137l0]at h
 |k+1=>by
  have ih0:=m137l k
  refine ?_
  ·intro x11 x12 x13 x3 x5
   show LeO (B137l0 (GX137l0 k) (FX92 k) (FX142 k) x11 x12 x13 x3 x5) (B137l0 (GX137l0 (k+1)) (FX92 (k+1)) (FX142 (k+1)) x11 x12 x13 x3 x5)
   unfold B137l0
   with_reducible repeat' first|apply ih0|exact LeO.refl _|exact LeO.none _|apply m92|apply m142|refine LeO.ite ?_ ?_|refine LeO.cnd_ ?_ ?_|refine LeO.bind ?_ (fun _=>?_)
theorem m137 (k:Nat) (x0:(List TQ)) (x1:TQ):LeO (FX137 k x0 x1) (FX137 (k+1) x0 x1):=by
 have ih0:=(m137l k)
 show LeO (B137 (GX137l0 k) x0 x1) (B137 (GX137l0 (k+1)) x0 x1)
 unfold B137
 with_reducible repeat' first|apply ih0|exact LeO.refl _|exact LeO.none _|apply m92|apply m142|refine LeO.ite ?_ ?_|refine LeO.cnd_ ?_ ?_|refine LeO.bind ?_ (fun _=>?_)
theorem m166l:∀k,(∀(x0:(List TQ)) (x1:(List TQ)) (x14:Int) (x15:Int) (x5:(List TQ)),LeO (GX166l0 k x0 x1 x14 x15 x5) (GX166l0 (k+1) x0 x1 x14 x15 x5))
 |0=>fun _ _ _ _ _ r h=>by simp [GX166l0]at h
 |k+1=>by
  have ih0:=m166l k
  refine ?_
  ·intro x0 x1 x14 x15 x5
   show LeO (B166l0 (GX166l0 k) (FX88 k) (FX92 k) (FX151 k) x0 x1 x14 x15 x5) (B166l0 (GX166l0 (k+1)) (FX88 (k+1)) (FX92 (k+1)) (FX151 (k+1)) x0 x1 x14 x15 x5)
   unfold B166l0
   with_reducible repeat' first|apply ih0|exact LeO.refl _|exact LeO.none _|apply m88|apply m92|apply m151|refine LeO.ite ?_ ?_|refine LeO.cnd_ ?_ ?_|refine LeO.bind ?_ (fun _=>?_)
theorem m166 (k:Nat) (x0:(List TQ)) (x1:(List TQ)):LeO (FX166 k x0 x1) (FX166 (k+1) x0 x1):=by
 have ih0:=(m166l k)
 show LeO (B166 (GX166l0 k) x0 x1) (B166 (GX166l0 (k+1)) x0 x1)
 unfold B166
 with_reducible repeat' first|apply ih0|exact LeO.refl _|exact LeO.none _|apply m88|apply m92|apply m151|refine LeO.ite ?_ ?_|refine LeO.cnd_ ?_ ?_|refine LeO.bind ?_ (fun _=>?_)
theorem m106l:∀k,(∀(x0:(List TQ)) (x6:(List TQ)) (x7:(List TQ)) (x8:(List TQ)) (x9:(List TQ)),LeO (GX106l0 k x0 x6 x7 x8 x9) (GX106l0 (k+1) x0 x6 x7 x8 x9))
 |0=>fun _ _ _ _ _ r h=>by simp [GX106l0]at h
 |k+1=>by
  have ih0:=m106l k
  refine ?_
  ·intro x0 x6 x7 x8 x9
   show LeO (B106l0 (GX106l0 k) (FX91 k) (FX137 k) (FX144 k) (FX147 k) (FX165 k) (FX166 k) x0 x6 x7 x8 x9) (B106l0 (GX106l0 (k+1)) (FX91 (k+1)) (FX137 (k+1)) (FX144 (k+1)) (FX147 (k+1)) (FX165 (k+1)) (FX166 (k+1)) x0 x6 x7 x8 x9)
   unfold B106l0
   with_reducible repeat' first|apply ih0|exact LeO.refl _|exact LeO.none _|apply m86|apply m91|apply m137|apply m144|apply m147|apply m165|apply m166|refine LeO.ite ?_ ?_|refine LeO.cnd_ ?_ ?_|refine LeO.bind ?_ (fun _=>?_)
theorem m106 (k:Nat) (x0:(List TQ)) (x1:(List TQ)):LeO (FX106 k x0 x1) (FX106 (k+1) x0 x1):=by
 have ih0:=(m106l k)
 show LeO (B106 (GX106l0 k) (FX86 k) (FX165 k) x0 x1) (B106 (GX106l0 (k+1)) (FX86 (k+1)) (FX165 (k+1)) x0 x1)
 unfold B106
 with_reducible repeat' first|apply ih0|exact LeO.refl _|exact LeO.none _|apply m86|apply m91|apply m137|apply m144|apply m147|apply m165|apply m166|refine LeO.ite ?_ ?_|refine LeO.cnd_ ?_ ?_|refine LeO.bind ?_ (fun _=>?_)
theorem m122l:∀k,(∀(x0:(List (List TQ))) (x3:Int),LeO (GX122l0 k x0 x3) (GX122l0 (k+1) x0 x3))
 |0=>fun _ _ r h=>by simp [GX122l0]at h
 |k+1=>by
  have ih0:=m122l k
  refine ?_
  ·intro x0 x3
   show LeO (B122l0 (GX122l0 k) x0 x3) (B122l0 (GX122l0 (k+1)) x0 x3)
   unfold B122l0
   with_reducible repeat' first|apply ih0|exact LeO.refl _|exact LeO.none _|refine LeO.ite ?_ ?_|refine LeO.cnd_ ?_ ?_|refine LeO.bind ?_ (fun _=>?_)
theorem m122 (k:Nat) (x0:(List (List TQ))):LeO (FX122 k x0) (FX122 (k+1) x0):=by
 have ih0:=(m122l k)
 show LeO (B122 (GX122l0 k) x0) (B122 (GX122l0 (k+1)) x0)
 rw [B122.eq_1,B122.eq_1]
 with_reducible repeat' first|apply ih0|exact LeO.refl _|exact LeO.none _|refine LeO.ite ?_ ?_|refine LeO.cnd_ ?_ ?_|refine LeO.bind ?_ (fun _=>?_)
theorem m107l:∀k,(∀(x2:(List (List TQ))) (x3:(List TQ)) (x11:Int) (x13:Int) (x4:(List TQ)) (x10:(List (List TQ))) (x12:(List (List TQ))),LeO (GX107l0 k x2 x3 x11 x13 x4 x10 x12) (GX107l0 (k+1) x2 x3 x11 x13 x4 x10 x12))∧(∀(x2:(List (List TQ))) (x3:(List TQ)) (x11:Int) (x13:Int) (x14:(List TQ)) (x60:Int) (x61:Int) (x4:(List TQ)) (x10:(List (List TQ))) (x12:(List (List TQ))),LeO (GX107l1 k x2 x3 x11 x13 x14 x60 x61 x4 x10 x12) (GX107l1 (k+1) x2 x3 x11 x13 x14 x60 x61 x4 x10 x12))
 |0=>⟨fun _ _ _ _ _ _ _ r h=>by simp [GX107l0]at h,fun _ _ _ _ _ _ _ _ _ _ r h=>by simp [GX107l1]at h⟩
 |k+1=>by
  obtain⟨ih0,ih1⟩:=m107l k
  refine⟨?_,?_⟩
  ·intro x2 x3 x11 x13 x4 x10 x12
   show LeO (B107l0 (GX107l0 k) (GX107l1 k) (FX122 k) (FX146 k) x2 x3 x11 x13 x4 x10 x12) (B107l0 (GX107l0 (k+1)) (GX107l1 (k+1)) (FX122 (k+1)) (FX146 (k+1)) x2 x3 x11 x13 x4 x10 x12)
   unfold B107l0
   with_reducible repeat' first|apply ih0|apply ih1|exact LeO.refl _|exact LeO.none _|apply m122|apply m146|apply m166|refine LeO.ite ?_ ?_|refine LeO.cnd_ ?_ ?_|refine LeO.bind ?_ (fun _=>?_)
  ·intro x2 x3 x11 x13 x14 x60 x61 x4 x10 x12
   show LeO (B107l1 (GX107l0 k) (GX107l1 k) (FX146 k) (FX166 k) x2 x3 x11 x13 x14 x60 x61 x4 x10 x12) (B107l1 (GX107l0 (k+1)) (GX107l1 (k+1)) (FX146 (k+1)) (FX166 (k+1)) x2 x3 x11 x13 x14 x60 x61 x4 x10 x12)
   unfold B107l1
   with_reducible repeat' first|apply ih0|apply ih1|exact LeO.refl _|exact LeO.none _|apply m122|apply m146|apply m166|refine LeO.ite ?_ ?_|refine LeO.cnd_ ?_ ?_|refine LeO.bind ?_ (fun _=>?_)
theorem m107 (k:Nat) (x0:(List TQ)) (x1:(List (List TQ))) (x2:(List (List TQ))) (x3:(List TQ)):LeO (FX107 k x0 x1 x2 x3) (FX107 (k+1) x0 x1 x2 x3):=by
 have ih0:=(m107l k).1
 have ih1:=(m107l k).2
 show LeO (B107 (GX107l0 k) (FX122 k) x0 x1 x2 x3) (B107 (GX107l0 (k+1)) (FX122 (k+1)) x0 x1 x2 x3)
 unfold B107
 with_reducible repeat' first|apply ih0|apply ih1|exact LeO.refl _|exact LeO.none _|apply m122|apply m146|apply m166|refine LeO.ite ?_ ?_|refine LeO.cnd_ ?_ ?_|refine LeO.bind ?_ (fun _=>?_)
theorem m176 (k:Nat) (x0:(List TQ)):LeO (FX176 k x0) (FX176 (k+1) x0):=by
 show LeO (B176 (FX153Large k) x0) (B176 (FX153Large (k+1)) x0)
 unfold B176
 with_reducible repeat' first|exact LeO.refl _|exact LeO.none _|apply m153Large|refine LeO.ite ?_ ?_|refine LeO.cnd_ ?_ ?_|refine LeO.bind ?_ (fun _=>?_)
theorem m216Largel:∀k,(∀(x0:(List (List TQ))) (x7:Int) (x8:Int),LeO (GX216Largel0 k x0 x7 x8) (GX216Largel0 (k+1) x0 x7 x8))
 |0=>fun _ _ _ r h=>by simp [GX216Largel0]at h
 |k+1=>by
  have ih0:=m216Largel k
  refine ?_
  ·intro x0 x7 x8
   show LeO (B216Largel0 (GX216Largel0 k) (FX176 k) x0 x7 x8) (B216Largel0 (GX216Largel0 (k+1)) (FX176 (k+1)) x0 x7 x8)
   unfold B216Largel0
   with_reducible repeat' first|apply ih0|exact LeO.refl _|exact LeO.none _|apply m176|refine LeO.ite ?_ ?_|refine LeO.cnd_ ?_ ?_|refine LeO.bind ?_ (fun _=>?_)
theorem m216Large (k:Nat) (x0:(List (List TQ))):LeO (FX216Large k x0) (FX216Large (k+1) x0):=by
 have ih0:=(m216Largel k)
 show LeO (B216Large (GX216Largel0 k) x0) (B216Large (GX216Largel0 (k+1)) x0)
 rw [B216Large.eq_1,B216Large.eq_1]
 with_reducible repeat' first|apply ih0|exact LeO.refl _|exact LeO.none _|apply m176|refine LeO.ite ?_ ?_|refine LeO.cnd_ ?_ ?_|refine LeO.bind ?_ (fun _=>?_)
theorem m175Large (k:Nat) (x0:(List (List TQ))):LeO (FX175Large k x0) (FX175Large (k+1) x0):=by
 show LeO (B175Large (FX216Large k) x0) (B175Large (FX216Large (k+1)) x0)
 unfold B175Large
 with_reducible repeat' first|exact LeO.refl _|exact LeO.none _|apply m216Large|refine LeO.ite ?_ ?_|refine LeO.cnd_ ?_ ?_|refine LeO.bind ?_ (fun _=>?_)
theorem m128 (k:Nat) (x0:(List (List TQ))):LeO (FX128 k x0) (FX128 (k+1) x0):=by
 show LeO (B128 (FX175Large k) x0) (B128 (FX175Large (k+1)) x0)
 unfold B128
 with_reducible repeat' first|exact LeO.refl _|exact LeO.none _|apply m175Large|refine LeO.ite ?_ ?_|refine LeO.cnd_ ?_ ?_|refine LeO.bind ?_ (fun _=>?_)
theorem m108 (k:Nat) (x0:(List (List TQ))):LeO (FX108 k x0) (FX108 (k+1) x0):=by
 show LeO (B108 (FX128 k) x0) (B108 (FX128 (k+1)) x0)
 unfold B108
 with_reducible repeat' first|exact LeO.refl _|exact LeO.none _|apply m128|refine LeO.ite ?_ ?_|refine LeO.cnd_ ?_ ?_|refine LeO.bind ?_ (fun _=>?_)
theorem m28 (k:Nat) (x0:(List TQ)) (x1:(List (List TQ))) (x2:(List (List TQ))):LeO (FX28 k x0 x1 x2) (FX28 (k+1) x0 x1 x2):=by
 show LeO (B28 (FX83 k) (FX106 k) (FX107 k) (FX108 k) x0 x1 x2) (B28 (FX83 (k+1)) (FX106 (k+1)) (FX107 (k+1)) (FX108 (k+1)) x0 x1 x2)
 unfold B28
 with_reducible repeat' first|exact LeO.refl _|exact LeO.none _|apply m83|apply m106|apply m107|apply m108|refine LeO.ite ?_ ?_|refine LeO.cnd_ ?_ ?_|refine LeO.bind ?_ (fun _=>?_)
theorem m29l:∀k,(∀(x0:(List (List TQ))) (x1:(List (List TQ))) (x12:Int) (x13:Int),LeO (GX29l0 k x0 x1 x12 x13) (GX29l0 (k+1) x0 x1 x12 x13))
 |0=>fun _ _ _ _ r h=>by simp [GX29l0]at h
 |k+1=>by
  have ih0:=m29l k
  refine ?_
  ·intro x0 x1 x12 x13
   show LeO (B29l0 (GX29l0 k) (FX18 k) x0 x1 x12 x13) (B29l0 (GX29l0 (k+1)) (FX18 (k+1)) x0 x1 x12 x13)
   unfold B29l0
   with_reducible repeat' first|apply ih0|exact LeO.refl _|exact LeO.none _|apply m18|refine LeO.ite ?_ ?_|refine LeO.cnd_ ?_ ?_|refine LeO.bind ?_ (fun _=>?_)
theorem m29 (k:Nat) (x0:(List (List TQ))) (x1:(List (List TQ))):LeO (FX29 k x0 x1) (FX29 (k+1) x0 x1):=by
 have ih0:=(m29l k)
 show LeO (B29 (GX29l0 k) x0 x1) (B29 (GX29l0 (k+1)) x0 x1)
 unfold B29
 with_reducible repeat' first|apply ih0|exact LeO.refl _|exact LeO.none _|apply m18|refine LeO.ite ?_ ?_|refine LeO.cnd_ ?_ ?_|refine LeO.bind ?_ (fun _=>?_)
theorem m131l:∀k,(∀(x2:(List TQ)) (x13:(List (List TQ))) (x14:Int) (x15:Int) (x3:(List TQ)) (x7:(List (List TQ))),LeO (GX131l0 k x2 x13 x14 x15 x3 x7) (GX131l0 (k+1) x2 x13 x14 x15 x3 x7))
 |0=>fun _ _ _ _ _ _ r h=>by simp [GX131l0]at h
 |k+1=>by
  have ih0:=m131l k
  refine ?_
  ·intro x2 x13 x14 x15 x3 x7
   show LeO (B131l0 (GX131l0 k) (FX122 k) (FX146 k) x2 x13 x14 x15 x3 x7) (B131l0 (GX131l0 (k+1)) (FX122 (k+1)) (FX146 (k+1)) x2 x13 x14 x15 x3 x7)
   unfold B131l0
   with_reducible repeat' first|apply ih0|exact LeO.refl _|exact LeO.none _|apply m122|apply m146|refine LeO.ite ?_ ?_|refine LeO.cnd_ ?_ ?_|refine LeO.bind ?_ (fun _=>?_)
theorem m131 (k:Nat) (x0:(List TQ)) (x1:(List (List TQ))) (x2:(List TQ)):LeO (FX131 k x0 x1 x2) (FX131 (k+1) x0 x1 x2):=by
 have ih0:=(m131l k)
 show LeO (B131 (GX131l0 k) x0 x1 x2) (B131 (GX131l0 (k+1)) x0 x1 x2)
 unfold B131
 with_reducible repeat' first|apply ih0|exact LeO.refl _|exact LeO.none _|apply m122|apply m146|refine LeO.ite ?_ ?_|refine LeO.cnd_ ?_ ?_|refine LeO.bind ?_ (fun _=>?_)
theorem m110 (k:Nat) (x0:(List TQ)) (x1:(List (List TQ))):LeO (FX110 k x0 x1) (FX110 (k+1) x0 x1):=by
 show LeO (B110 (FX106 k) (FX131 k) x0 x1) (B110 (FX106 (k+1)) (FX131 (k+1)) x0 x1)
 unfold B110
 with_reducible repeat' first|exact LeO.refl _|exact LeO.none _|apply m106|apply m131|refine LeO.ite ?_ ?_|refine LeO.cnd_ ?_ ?_|refine LeO.bind ?_ (fun _=>?_)
theorem m112 (k:Nat) (x0:(List (List TQ))):LeO (FX112 k x0) (FX112 (k+1) x0):=by
 show LeO (B112 x0) (B112 x0)
 unfold B112
 with_reducible repeat' first|exact LeO.refl _|exact LeO.none _|refine LeO.ite ?_ ?_|refine LeO.cnd_ ?_ ?_|refine LeO.bind ?_ (fun _=>?_)
theorem m111Gcd (k:Nat) (x0:((List (List TQ))×Unit)):LeO (FX111Gcd k x0) (FX111Gcd (k+1) x0):=by
 show LeO (B111Gcd (FX108 k) (FX112 k) x0) (B111Gcd (FX108 (k+1)) (FX112 (k+1)) x0)
 unfold B111Gcd
 with_reducible repeat' first|exact LeO.refl _|exact LeO.none _|apply m108|apply m112|refine LeO.ite ?_ ?_|refine LeO.cnd_ ?_ ?_|refine LeO.bind ?_ (fun _=>?_)
theorem m31l:∀k,(∀(x3:(List TQ)) (x9:((List (List TQ))×(List (List TQ)))),LeO (GX31l0 k x3 x9) (GX31l0 (k+1) x3 x9))
 |0=>fun _ _ r h=>by simp [GX31l0]at h
 |k+1=>by
  have ih0:=m31l k
  refine ?_
  ·intro x3 x9
   show LeO (B31l0 (GX31l0 k) (FX86 k) (FX107 k) (FX110 k) (FX111Gcd k) x3 x9) (B31l0 (GX31l0 (k+1)) (FX86 (k+1)) (FX107 (k+1)) (FX110 (k+1)) (FX111Gcd (k+1)) x3 x9)
   unfold B31l0
   with_reducible repeat' first|apply ih0|exact LeO.refl _|exact LeO.none _|apply m83|apply m86|apply m107|apply m110|apply m111Gcd|refine LeO.ite ?_ ?_|refine LeO.cnd_ ?_ ?_|refine LeO.bind ?_ (fun _=>?_)
theorem m31 (k:Nat) (x0:(List TQ)) (x1:(List (List TQ))) (x2:(List (List TQ))):LeO (FX31 k x0 x1 x2) (FX31 (k+1) x0 x1 x2):=by
 have ih0:=(m31l k)
 show LeO (B31 (GX31l0 k) (FX83 k) x0 x1 x2) (B31 (GX31l0 (k+1)) (FX83 (k+1)) x0 x1 x2)
 unfold B31
 with_reducible repeat' first|apply ih0|exact LeO.refl _|exact LeO.none _|apply m83|apply m86|apply m107|apply m110|apply m111Gcd|refine LeO.ite ?_ ?_|refine LeO.cnd_ ?_ ?_|refine LeO.bind ?_ (fun _=>?_)
theorem m174 (k:Nat) (x0:(List (List TQ))) (x1:Int):LeO (FX174 k x0 x1) (FX174 (k+1) x0 x1):=by
 show LeO (B174 x0 x1) (B174 x0 x1)
 unfold B174
 with_reducible repeat' first|exact LeO.refl _|exact LeO.none _|refine LeO.ite ?_ ?_|refine LeO.cnd_ ?_ ?_|refine LeO.bind ?_ (fun _=>?_)
theorem m126l:∀k,(∀(x0:(List (List TQ))) (x1:(List (List TQ))) (x14:Int) (x15:Int) (x5:(List (List TQ))),LeO (GX126l0 k x0 x1 x14 x15 x5) (GX126l0 (k+1) x0 x1 x14 x15 x5))
 |0=>fun _ _ _ _ _ r h=>by simp [GX126l0]at h
 |k+1=>by
  have ih0:=m126l k
  refine ?_
  ·intro x0 x1 x14 x15 x5
   show LeO (B126l0 (GX126l0 k) (FX90 k) (FX122 k) (FX174 k) x0 x1 x14 x15 x5) (B126l0 (GX126l0 (k+1)) (FX90 (k+1)) (FX122 (k+1)) (FX174 (k+1)) x0 x1 x14 x15 x5)
   unfold B126l0
   with_reducible repeat' first|apply ih0|exact LeO.refl _|exact LeO.none _|apply m90|apply m122|apply m174|refine LeO.ite ?_ ?_|refine LeO.cnd_ ?_ ?_|refine LeO.bind ?_ (fun _=>?_)
theorem m126 (k:Nat) (x0:(List (List TQ))) (x1:(List (List TQ))):LeO (FX126 k x0 x1) (FX126 (k+1) x0 x1):=by
 have ih0:=(m126l k)
 show LeO (B126 (GX126l0 k) x0 x1) (B126 (GX126l0 (k+1)) x0 x1)
 unfold B126
 with_reducible repeat' first|apply ih0|exact LeO.refl _|exact LeO.none _|apply m90|apply m122|apply m174|refine LeO.ite ?_ ?_|refine LeO.cnd_ ?_ ?_|refine LeO.bind ?_ (fun _=>?_)
theorem m127l:∀k,(∀(x2:(List (List TQ))) (x28:(List (List TQ))) (x29:Int) (x30:Int) (x3:(List TQ)) (x7:(List (List TQ))),LeO (GX127l0 k x2 x28 x29 x30 x3 x7) (GX127l0 (k+1) x2 x28 x29 x30 x3 x7))∧(∀(x2:(List (List TQ))) (x8:Int) (x9:(List TQ)) (x28:(List (List TQ))) (x29:Int) (x30:Int) (x35:(List (List TQ))) (x36:Int) (x37:Int) (x3:(List TQ)) (x7:(List (List TQ))),LeO (GX127l1 k x2 x8 x9 x28 x29 x30 x35 x36 x37 x3 x7) (GX127l1 (k+1) x2 x8 x9 x28 x29 x30 x35 x36 x37 x3 x7))∧(∀(x60:Int) (x61:Int) (x3:(List TQ)) (x7:(List (List TQ))),LeO (GX127l2 k x60 x61 x3 x7) (GX127l2 (k+1) x60 x61 x3 x7))
 |0=>⟨fun _ _ _ _ _ _ r h=>by simp [GX127l0]at h,fun _ _ _ _ _ _ _ _ _ _ _ r h=>by simp [GX127l1]at h,fun _ _ _ _ r h=>by simp [GX127l2]at h⟩
 |k+1=>by
  obtain⟨ih0,ih1,ih2⟩:=m127l k
  refine⟨?_,?_,?_⟩
  ·intro x2 x28 x29 x30 x3 x7
   show LeO (B127l0 (GX127l1 k) (GX127l2 k) x2 x28 x29 x30 x3 x7) (B127l0 (GX127l1 (k+1)) (GX127l2 (k+1)) x2 x28 x29 x30 x3 x7)
   unfold B127l0
   with_reducible repeat' first|apply ih0|apply ih1|apply ih2|exact LeO.refl _|exact LeO.none _|apply m90|apply m91|apply m122|apply m165|refine LeO.ite ?_ ?_|refine LeO.cnd_ ?_ ?_|refine LeO.bind ?_ (fun _=>?_)
  ·intro x2 x8 x9 x28 x29 x30 x35 x36 x37 x3 x7
   show LeO (B127l1 (GX127l0 k) (GX127l1 k) (FX90 k) (FX91 k) x2 x8 x9 x28 x29 x30 x35 x36 x37 x3 x7) (B127l1 (GX127l0 (k+1)) (GX127l1 (k+1)) (FX90 (k+1)) (FX91 (k+1)) x2 x8 x9 x28 x29 x30 x35 x36 x37 x3 x7)
   unfold B127l1
   with_reducible repeat' first|apply ih0|apply ih1|apply ih2|exact LeO.refl _|exact LeO.none _|apply m90|apply m91|apply m122|apply m165|refine LeO.ite ?_ ?_|refine LeO.cnd_ ?_ ?_|refine LeO.bind ?_ (fun _=>?_)
  ·intro x60 x61 x3 x7
   show LeO (B127l2 (GX127l2 k) (FX122 k) (FX165 k) x60 x61 x3 x7) (B127l2 (GX127l2 (k+1)) (FX122 (k+1)) (FX165 (k+1)) x60 x61 x3 x7)
   unfold B127l2
   with_reducible repeat' first|apply ih0|apply ih1|apply ih2|exact LeO.refl _|exact LeO.none _|apply m90|apply m91|apply m122|apply m165|refine LeO.ite ?_ ?_|refine LeO.cnd_ ?_ ?_|refine LeO.bind ?_ (fun _=>?_)
theorem m127 (k:Nat) (x0:(List TQ)) (x1:(List (List TQ))) (x2:(List (List TQ))):LeO (FX127 k x0 x1 x2) (FX127 (k+1) x0 x1 x2):=by
 have ih0:=(m127l k).1
 have ih1:=(m127l k).2.1
 have ih2:=(m127l k).2.2
 show LeO (B127 (GX127l0 k) x0 x1 x2) (B127 (GX127l0 (k+1)) x0 x1 x2)
 unfold B127
 with_reducible repeat' first|apply ih0|apply ih1|apply ih2|exact LeO.refl _|exact LeO.none _|apply m90|apply m91|apply m122|apply m165|refine LeO.ite ?_ ?_|refine LeO.cnd_ ?_ ?_|refine LeO.bind ?_ (fun _=>?_)
theorem m125l:∀k,(∀(x1:(List (List TQ))) (x2:(List TQ)) (x4:(List (List TQ))) (x5:(List (List TQ))) (x6:Int),LeO (GX125l0 k x1 x2 x4 x5 x6) (GX125l0 (k+1) x1 x2 x4 x5 x6))
 |0=>fun _ _ _ _ _ r h=>by simp [GX125l0]at h
 |k+1=>by
  have ih0:=m125l k
  refine ?_
  ·intro x1 x2 x4 x5 x6
   show LeO (B125l0 (GX125l0 k) (FX122 k) (FX126 k) (FX127 k) x1 x2 x4 x5 x6) (B125l0 (GX125l0 (k+1)) (FX122 (k+1)) (FX126 (k+1)) (FX127 (k+1)) x1 x2 x4 x5 x6)
   unfold B125l0
   with_reducible repeat' first|apply ih0|exact LeO.refl _|exact LeO.none _|apply m86|apply m122|apply m126|apply m127|refine LeO.ite ?_ ?_|refine LeO.cnd_ ?_ ?_|refine LeO.bind ?_ (fun _=>?_)
theorem m125 (k:Nat) (x0:(List TQ)) (x1:(List (List TQ))) (x2:(List TQ)):LeO (FX125 k x0 x1 x2) (FX125 (k+1) x0 x1 x2):=by
 have ih0:=(m125l k)
 show LeO (B125 (GX125l0 k) (FX86 k) (FX122 k) x0 x1 x2) (B125 (GX125l0 (k+1)) (FX86 (k+1)) (FX122 (k+1)) x0 x1 x2)
 unfold B125
 with_reducible repeat' first|apply ih0|exact LeO.refl _|exact LeO.none _|apply m86|apply m122|apply m126|apply m127|refine LeO.ite ?_ ?_|refine LeO.cnd_ ?_ ?_|refine LeO.bind ?_ (fun _=>?_)
theorem m111Shift (k:Nat) (x0:((List TQ)×(List (List TQ))×(List TQ)×Unit)):LeO (FX111Shift k x0) (FX111Shift (k+1) x0):=by
 show LeO (B111Shift (FX108 k) (FX125 k) x0) (B111Shift (FX108 (k+1)) (FX125 (k+1)) x0)
 unfold B111Shift
 with_reducible repeat' first|exact LeO.refl _|exact LeO.none _|apply m108|apply m125|refine LeO.ite ?_ ?_|refine LeO.cnd_ ?_ ?_|refine LeO.bind ?_ (fun _=>?_)
theorem m50 (k:Nat) (x0:(List TQ)) (x1:(List (List TQ))) (x2:(List TQ)):LeO (FX50 k x0 x1 x2) (FX50 (k+1) x0 x1 x2):=by
 show LeO (B50 (FX83 k) (FX111Shift k) (FX124 k) x0 x1 x2) (B50 (FX83 (k+1)) (FX111Shift (k+1)) (FX124 (k+1)) x0 x1 x2)
 unfold B50
 with_reducible repeat' first|exact LeO.refl _|exact LeO.none _|apply m83|apply m111Shift|apply m124|refine LeO.ite ?_ ?_|refine LeO.cnd_ ?_ ?_|refine LeO.bind ?_ (fun _=>?_)
theorem m16 (k:Nat):LeO (FX16 k) (FX16 (k+1)):=by
 show LeO (B16 (FX17 k) (FX18 k) (FX22 k) (FX28 k) (FX29 k) (FX31 k) (FX50 k)) (B16 (FX17 (k+1)) (FX18 (k+1)) (FX22 (k+1)) (FX28 (k+1)) (FX29 (k+1)) (FX31 (k+1)) (FX50 (k+1)))
 unfold B16
 with_reducible repeat' first|exact LeO.refl _|exact LeO.none _|apply m17|apply m18|apply m22|apply m28|apply m29|apply m31|apply m50|refine LeO.ite ?_ ?_|refine LeO.cnd_ ?_ ?_|refine LeO.bind ?_ (fun _=>?_)
theorem m159 (k:Nat) (x0:TI):LeO (FX159 k x0) (FX159 (k+1) x0):=by
 show LeO (B159 x0) (B159 x0)
 unfold B159
 with_reducible repeat' first|exact LeO.refl _|exact LeO.none _|refine LeO.ite ?_ ?_|refine LeO.cnd_ ?_ ?_|refine LeO.bind ?_ (fun _=>?_)
theorem m198 (k:Nat) (x0:Bool) (x1:ByteArray):LeO (FX198 k x0 x1) (FX198 (k+1) x0 x1):=by
 show LeO (B198 x0 x1) (B198 x0 x1)
 unfold B198
 with_reducible repeat' first|exact LeO.refl _|exact LeO.none _|refine LeO.ite ?_ ?_|refine LeO.cnd_ ?_ ?_|refine LeO.bind ?_ (fun _=>?_)
theorem m249l:∀k,(∀(x0:Int) (y0:(List Int)),LeO (GX249l0 k x0 y0) (GX249l0 (k+1) x0 y0))
 |0=>fun _ _ r h=>by simp [GX249l0]at h
 |k+1=>by
  have ih0:=m249l k
  refine ?_
  ·intro x0 y0
   show LeO (B249l0 (GX249l0 k) x0 y0) (B249l0 (GX249l0 (k+1)) x0 y0)
   unfold B249l0
   with_reducible repeat' first|apply ih0|exact LeO.refl _|exact LeO.none _|refine LeO.ite ?_ ?_|refine LeO.cnd_ ?_ ?_|refine LeO.bind ?_ (fun _=>?_)
theorem m249 (k:Nat) (y0:(List Int)):LeO (FX249 k y0) (FX249 (k+1) y0):=by
 have ih0:=(m249l k)
 show LeO (B249 (GX249l0 k) y0) (B249 (GX249l0 (k+1)) y0)
 rw [B249.eq_1,B249.eq_1]
 with_reducible repeat' first|apply ih0|exact LeO.refl _|exact LeO.none _|refine LeO.ite ?_ ?_|refine LeO.cnd_ ?_ ?_|refine LeO.bind ?_ (fun _=>?_)
theorem m229l:∀k,(∀(x0:ByteArray) (x4:Int) (x3:(List Int)),LeO (GX229l0 k x0 x4 x3) (GX229l0 (k+1) x0 x4 x3))∧(∀(x0:ByteArray) (x4:Int) (x5:Int) (x6:Int) (x3:(List Int)),LeO (GX229l1 k x0 x4 x5 x6 x3) (GX229l1 (k+1) x0 x4 x5 x6 x3))
 |0=>⟨fun _ _ _ r h=>by simp [GX229l0]at h,fun _ _ _ _ _ r h=>by simp [GX229l1]at h⟩
 |k+1=>by
  obtain⟨ih0,ih1⟩:=m229l k
  refine⟨?_,?_⟩
  ·intro x0 x4 x3
   show LeO (B229l0 (GX229l1 k) (FX249 k) x0 x4 x3) (B229l0 (GX229l1 (k+1)) (FX249 (k+1)) x0 x4 x3)
   unfold B229l0
   with_reducible repeat' first|apply ih0|apply ih1|exact LeO.refl _|exact LeO.none _|apply m249|refine LeO.ite ?_ ?_|refine LeO.cnd_ ?_ ?_|refine LeO.bind ?_ (fun _=>?_)
  ·intro x0 x4 x5 x6 x3
   show LeO (B229l1 (GX229l0 k) (GX229l1 k) x0 x4 x5 x6 x3) (B229l1 (GX229l0 (k+1)) (GX229l1 (k+1)) x0 x4 x5 x6 x3)
   unfold B229l1
   with_reducible repeat' first|apply ih0|apply ih1|exact LeO.refl _|exact LeO.none _|apply m249|refine LeO.ite ?_ ?_|refine LeO.cnd_ ?_ ?_|refine LeO.bind ?_ (fun _=>?_)
theorem m229 (k:Nat) (x0:ByteArray):LeO (FX229 k x0) (FX229 (k+1) x0):=by
 have ih0:=(m229l k).1
 have ih1:=(m229l k).2
 show LeO (B229 (GX229l0 k) x0) (B229 (GX229l0 (k+1)) x0)
 rw [B229.eq_1,B229.eq_1]
 with_reducible repeat' first|apply ih0|apply ih1|exact LeO.refl _|exact LeO.none _|apply m249|refine LeO.ite ?_ ?_|refine LeO.cnd_ ?_ ?_|refine LeO.bind ?_ (fun _=>?_)
theorem m199l:∀k,(∀(x8:Int) (x9:Int) (x5:(List Int)) (x6:(List Int)) (x7:(List Int)),LeO (GX199l0 k x8 x9 x5 x6 x7) (GX199l0 (k+1) x8 x9 x5 x6 x7))
 |0=>fun _ _ _ _ _ r h=>by simp [GX199l0]at h
 |k+1=>by
  have ih0:=m199l k
  refine ?_
  ·intro x8 x9 x5 x6 x7
   show LeO (B199l0 (GX199l0 k) (FX221 k) x8 x9 x5 x6 x7) (B199l0 (GX199l0 (k+1)) (FX221 (k+1)) x8 x9 x5 x6 x7)
   unfold B199l0
   with_reducible repeat' first|apply ih0|exact LeO.refl _|exact LeO.none _|apply m221|apply m229|refine LeO.ite ?_ ?_|refine LeO.cnd_ ?_ ?_|refine LeO.bind ?_ (fun _=>?_)
theorem m199 (k:Nat) (x0:ByteArray) (x1:ByteArray):LeO (FX199 k x0 x1) (FX199 (k+1) x0 x1):=by
 have ih0:=(m199l k)
 show LeO (B199 (GX199l0 k) (FX229 k) x0 x1) (B199 (GX199l0 (k+1)) (FX229 (k+1)) x0 x1)
 unfold B199
 with_reducible repeat' first|apply ih0|exact LeO.refl _|exact LeO.none _|apply m221|apply m229|refine LeO.ite ?_ ?_|refine LeO.cnd_ ?_ ?_|refine LeO.bind ?_ (fun _=>?_)
theorem m200 (k:Nat) (x0:ByteArray) (x1:ByteArray):LeO (FX200 k x0 x1) (FX200 (k+1) x0 x1):=by
 show LeO (B200 x0 x1) (B200 x0 x1)
 unfold B200
 with_reducible repeat' first|exact LeO.refl _|exact LeO.none _|refine LeO.ite ?_ ?_|refine LeO.cnd_ ?_ ?_|refine LeO.bind ?_ (fun _=>?_)
theorem m201l:∀k,(∀(x7:Int) (x8:Int) (x5:(List Int)) (x6:(List Int)),LeO (GX201l0 k x7 x8 x5 x6) (GX201l0 (k+1) x7 x8 x5 x6))
 |0=>fun _ _ _ _ r h=>by simp [GX201l0]at h
 |k+1=>by
  have ih0:=m201l k
  refine ?_
  ·intro x7 x8 x5 x6
   show LeO (B201l0 (GX201l0 k) (FX221 k) x7 x8 x5 x6) (B201l0 (GX201l0 (k+1)) (FX221 (k+1)) x7 x8 x5 x6)
   unfold B201l0
   with_reducible repeat' first|apply ih0|exact LeO.refl _|exact LeO.none _|apply m200|apply m221|apply m229|refine LeO.ite ?_ ?_|refine LeO.cnd_ ?_ ?_|refine LeO.bind ?_ (fun _=>?_)
theorem m201 (k:Nat) (x0:ByteArray) (x1:ByteArray):LeO (FX201 k x0 x1) (FX201 (k+1) x0 x1):=by
 have ih0:=(m201l k)
 show LeO (B201 (GX201l0 k) (FX200 k) (FX229 k) x0 x1) (B201 (GX201l0 (k+1)) (FX200 (k+1)) (FX229 (k+1)) x0 x1)
 unfold B201
 with_reducible repeat' first|apply ih0|exact LeO.refl _|exact LeO.none _|apply m200|apply m221|apply m229|refine LeO.ite ?_ ?_|refine LeO.cnd_ ?_ ?_|refine LeO.bind ?_ (fun _=>?_)
theorem m160 (k:Nat) (x0:TI) (x1:TI):LeO (FX160 k x0 x1) (FX160 (k+1) x0 x1):=by
 show LeO (B160 (FX198 k) (FX199 k) (FX200 k) (FX201 k) x0 x1) (B160 (FX198 (k+1)) (FX199 (k+1)) (FX200 (k+1)) (FX201 (k+1)) x0 x1)
 unfold B160
 with_reducible repeat' first|exact LeO.refl _|exact LeO.none _|apply m198|apply m199|apply m200|apply m201|refine LeO.ite ?_ ?_|refine LeO.cnd_ ?_ ?_|refine LeO.bind ?_ (fun _=>?_)
theorem m202l:∀k,(∀(x8:Int) (x5:(List Int)) (x6:(List Int)) (x7:(List Int)),LeO (GX202l0 k x8 x5 x6 x7) (GX202l0 (k+1) x8 x5 x6 x7))∧(∀(x8:Int) (x9:Int) (x10:Int) (x5:(List Int)) (x6:(List Int)) (x7:(List Int)),LeO (GX202l1 k x8 x9 x10 x5 x6 x7) (GX202l1 (k+1) x8 x9 x10 x5 x6 x7))
 |0=>⟨fun _ _ _ _ r h=>by simp [GX202l0]at h,fun _ _ _ _ _ _ r h=>by simp [GX202l1]at h⟩
 |k+1=>by
  obtain⟨ih0,ih1⟩:=m202l k
  refine⟨?_,?_⟩
  ·intro x8 x5 x6 x7
   show LeO (B202l0 (GX202l1 k) (FX221 k) x8 x5 x6 x7) (B202l0 (GX202l1 (k+1)) (FX221 (k+1)) x8 x5 x6 x7)
   unfold B202l0
   with_reducible repeat' first|apply ih0|apply ih1|exact LeO.refl _|exact LeO.none _|apply m221|apply m229|refine LeO.ite ?_ ?_|refine LeO.cnd_ ?_ ?_|refine LeO.bind ?_ (fun _=>?_)
  ·intro x8 x9 x10 x5 x6 x7
   show LeO (B202l1 (GX202l0 k) (GX202l1 k) x8 x9 x10 x5 x6 x7) (B202l1 (GX202l0 (k+1)) (GX202l1 (k+1)) x8 x9 x10 x5 x6 x7)
   unfold B202l1
   with_reducible repeat' first|apply ih0|apply ih1|exact LeO.refl _|exact LeO.none _|apply m221|apply m229|refine LeO.ite ?_ ?_|refine LeO.cnd_ ?_ ?_|refine LeO.bind ?_ (fun _=>?_)
theorem m202 (k:Nat) (x0:ByteArray) (x1:ByteArray):LeO (FX202 k x0 x1) (FX202 (k+1) x0 x1):=by
 have ih0:=(m202l k).1
 have ih1:=(m202l k).2
 show LeO (B202 (GX202l0 k) (FX229 k) x0 x1) (B202 (GX202l0 (k+1)) (FX229 (k+1)) x0 x1)
 unfold B202
 with_reducible repeat' first|apply ih0|apply ih1|exact LeO.refl _|exact LeO.none _|apply m221|apply m229|refine LeO.ite ?_ ?_|refine LeO.cnd_ ?_ ?_|refine LeO.bind ?_ (fun _=>?_)
theorem m161 (k:Nat) (x0:TI) (x1:TI):LeO (FX161 k x0 x1) (FX161 (k+1) x0 x1):=by
 show LeO (B161 (FX198 k) (FX202 k) x0 x1) (B161 (FX198 (k+1)) (FX202 (k+1)) x0 x1)
 unfold B161
 with_reducible repeat' first|exact LeO.refl _|exact LeO.none _|apply m198|apply m202|refine LeO.ite ?_ ?_|refine LeO.cnd_ ?_ ?_|refine LeO.bind ?_ (fun _=>?_)
theorem m162 (k:Nat) (x0:TQ):LeO (FX162 k x0) (FX162 (k+1) x0):=by
 show LeO (B162 x0) (B162 x0)
 unfold B162
 with_reducible repeat' first|exact LeO.refl _|exact LeO.none _|refine LeO.ite ?_ ?_|refine LeO.cnd_ ?_ ?_|refine LeO.bind ?_ (fun _=>?_)
theorem m230l:∀k,(∀(x0:Int) (x1:(List Int)) (x5:Int) (y0:(List Int)),LeO (GX230l0 k x0 x1 x5 y0) (GX230l0 (k+1) x0 x1 x5 y0))
 |0=>fun _ _ _ _ r h=>by simp [GX230l0]at h
 |k+1=>by
  have ih0:=m230l k
  refine ?_
  ·intro x0 x1 x5 y0
   show LeO (B230l0 (GX230l0 k) x0 x1 x5 y0) (B230l0 (GX230l0 (k+1)) x0 x1 x5 y0)
   unfold B230l0
   with_reducible repeat' first|apply ih0|exact LeO.refl _|exact LeO.none _|apply m249|refine LeO.ite ?_ ?_|refine LeO.cnd_ ?_ ?_|refine LeO.bind ?_ (fun _=>?_)
theorem m230 (k:Nat) (x1:(List Int)) (y0:(List Int)):LeO (FX230 k x1 y0) (FX230 (k+1) x1 y0):=by
 have ih0:=(m230l k)
 show LeO (B230 (GX230l0 k) (FX249 k) x1 y0) (B230 (GX230l0 (k+1)) (FX249 (k+1)) x1 y0)
 unfold B230
 with_reducible repeat' first|apply ih0|exact LeO.refl _|exact LeO.none _|apply m249|refine LeO.ite ?_ ?_|refine LeO.cnd_ ?_ ?_|refine LeO.bind ?_ (fun _=>?_)
theorem m203l:∀k,(∀(x7:(List Int)) (x8:Int) (x11:Int) (x9:(List Int)) (x10:(List Int)),LeO (GX203l0 k x7 x8 x11 x9 x10) (GX203l0 (k+1) x7 x8 x11 x9 x10))∧(∀(x7:(List Int)) (x8:Int) (x11:Int) (x9:(List Int)) (x10:(List Int)),LeO (GX203l1 k x7 x8 x11 x9 x10) (GX203l1 (k+1) x7 x8 x11 x9 x10))∧(∀(x7:(List Int)) (x8:Int) (x11:Int) (x12:Int) (x13:Int) (x14:Int) (x9:(List Int)) (x10:(List Int)),LeO (GX203l2 k x7 x8 x11 x12 x13 x14 x9 x10) (GX203l2 (k+1) x7 x8 x11 x12 x13 x14 x9 x10))
 |0=>⟨fun _ _ _ _ _ r h=>by simp [GX203l0]at h,fun _ _ _ _ _ r h=>by simp [GX203l1]at h,fun _ _ _ _ _ _ _ _ r h=>by simp [GX203l2]at h⟩
 |k+1=>by
  obtain⟨ih0,ih1,ih2⟩:=m203l k
  refine⟨?_,?_,?_⟩
  ·intro x7 x8 x11 x9 x10
   show LeO (B203l0 (GX203l1 k) (FX221 k) x7 x8 x11 x9 x10) (B203l0 (GX203l1 (k+1)) (FX221 (k+1)) x7 x8 x11 x9 x10)
   unfold B203l0
   with_reducible repeat' first|apply ih0|apply ih1|apply ih2|exact LeO.refl _|exact LeO.none _|apply m221|apply m229|apply m230|refine LeO.ite ?_ ?_|refine LeO.cnd_ ?_ ?_|refine LeO.bind ?_ (fun _=>?_)
  ·intro x7 x8 x11 x9 x10
   show LeO (B203l1 (GX203l0 k) (GX203l2 k) (FX230 k) x7 x8 x11 x9 x10) (B203l1 (GX203l0 (k+1)) (GX203l2 (k+1)) (FX230 (k+1)) x7 x8 x11 x9 x10)
   unfold B203l1
   with_reducible repeat' first|apply ih0|apply ih1|apply ih2|exact LeO.refl _|exact LeO.none _|apply m221|apply m229|apply m230|refine LeO.ite ?_ ?_|refine LeO.cnd_ ?_ ?_|refine LeO.bind ?_ (fun _=>?_)
  ·intro x7 x8 x11 x12 x13 x14 x9 x10
   show LeO (B203l2 (GX203l1 k) (GX203l2 k) x7 x8 x11 x12 x13 x14 x9 x10) (B203l2 (GX203l1 (k+1)) (GX203l2 (k+1)) x7 x8 x11 x12 x13 x14 x9 x10)
   unfold B203l2
   with_reducible repeat' first|apply ih0|apply ih1|apply ih2|exact LeO.refl _|exact LeO.none _|apply m221|apply m229|apply m230|refine LeO.ite ?_ ?_|refine LeO.cnd_ ?_ ?_|refine LeO.bind ?_ (fun _=>?_)
theorem m203 (k:Nat) (x0:ByteArray) (x1:ByteArray):LeO (FX203 k x0 x1) (FX203 (k+1) x0 x1):=by
 have ih0:=(m203l k).1
 have ih1:=(m203l k).2.1
 have ih2:=(m203l k).2.2
 show LeO (B203 (GX203l0 k) (FX229 k) x0 x1) (B203 (GX203l0 (k+1)) (FX229 (k+1)) x0 x1)
 unfold B203
 with_reducible repeat' first|apply ih0|apply ih1|apply ih2|exact LeO.refl _|exact LeO.none _|apply m221|apply m229|apply m230|refine LeO.ite ?_ ?_|refine LeO.cnd_ ?_ ?_|refine LeO.bind ?_ (fun _=>?_)
theorem m180l:∀k,(∀(x0:ByteArray) (x1:ByteArray),LeO (GX180l0 k x0 x1) (GX180l0 (k+1) x0 x1))
 |0=>fun _ _ r h=>by simp [GX180l0]at h
 |k+1=>by
  have ih0:=m180l k
  refine ?_
  ·intro x0 x1
   show LeO (B180l0 (GX180l0 k) (FX203 k) x0 x1) (B180l0 (GX180l0 (k+1)) (FX203 (k+1)) x0 x1)
   unfold B180l0
   with_reducible repeat' first|apply ih0|exact LeO.refl _|exact LeO.none _|apply m203|refine LeO.ite ?_ ?_|refine LeO.cnd_ ?_ ?_|refine LeO.bind ?_ (fun _=>?_)
theorem m180 (k:Nat) (x0:ByteArray) (x1:ByteArray):LeO (FX180 k x0 x1) (FX180 (k+1) x0 x1):=by
 have ih0:=(m180l k)
 show LeO (B180 (GX180l0 k) x0 x1) (B180 (GX180l0 (k+1)) x0 x1)
 rw [B180.eq_1,B180.eq_1]
 with_reducible repeat' first|apply ih0|exact LeO.refl _|exact LeO.none _|apply m203|refine LeO.ite ?_ ?_|refine LeO.cnd_ ?_ ?_|refine LeO.bind ?_ (fun _=>?_)
theorem m163 (k:Nat) (x0:TI) (x1:TI):LeO (FX163 k x0 x1) (FX163 (k+1) x0 x1):=by
 show LeO (B163 (FX180 k) (FX198 k) (FX203 k) x0 x1) (B163 (FX180 (k+1)) (FX198 (k+1)) (FX203 (k+1)) x0 x1)
 unfold B163
 with_reducible repeat' first|exact LeO.refl _|exact LeO.none _|apply m180|apply m198|apply m203|refine LeO.ite ?_ ?_|refine LeO.cnd_ ?_ ?_|refine LeO.bind ?_ (fun _=>?_)
theorem m101 (k:Nat) (x0:TQ) (x1:TQ):LeO (FX101 k x0 x1) (FX101 (k+1) x0 x1):=by
 show LeO (B101 (FX159 k) (FX160 k) (FX161 k) (FX162 k) (FX163 k) x0 x1) (B101 (FX159 (k+1)) (FX160 (k+1)) (FX161 (k+1)) (FX162 (k+1)) (FX163 (k+1)) x0 x1)
 unfold B101
 with_reducible repeat' first|exact LeO.refl _|exact LeO.none _|apply m159|apply m160|apply m161|apply m162|apply m163|refine LeO.ite ?_ ?_|refine LeO.cnd_ ?_ ?_|refine LeO.bind ?_ (fun _=>?_)
theorem m102 (k:Nat) (x0:(List TQ)) (x1:Int):LeO (FX102 k x0 x1) (FX102 (k+1) x0 x1):=by
 show LeO (B102 (FX81 k) x0 x1) (B102 (FX81 (k+1)) x0 x1)
 unfold B102
 with_reducible repeat' first|exact LeO.refl _|exact LeO.none _|apply m81|refine LeO.ite ?_ ?_|refine LeO.cnd_ ?_ ?_|refine LeO.bind ?_ (fun _=>?_)
theorem m20l:∀k,(∀(x0:(List TQ)) (x1:(List TQ)) (x6:Int) (x5:(List TQ)),LeO (GX20l0 k x0 x1 x6 x5) (GX20l0 (k+1) x0 x1 x6 x5))
 |0=>fun _ _ _ _ r h=>by simp [GX20l0]at h
 |k+1=>by
  have ih0:=m20l k
  refine ?_
  ·intro x0 x1 x6 x5
   show LeO (B20l0 (GX20l0 k) (FX48 k) (FX101 k) (FX102 k) x0 x1 x6 x5) (B20l0 (GX20l0 (k+1)) (FX48 (k+1)) (FX101 (k+1)) (FX102 (k+1)) x0 x1 x6 x5)
   unfold B20l0
   with_reducible repeat' first|apply ih0|exact LeO.refl _|exact LeO.none _|apply m48|apply m101|apply m102|refine LeO.ite ?_ ?_|refine LeO.cnd_ ?_ ?_|refine LeO.bind ?_ (fun _=>?_)
theorem m20 (k:Nat) (x0:(List TQ)) (x1:(List TQ)):LeO (FX20 k x0 x1) (FX20 (k+1) x0 x1):=by
 have ih0:=(m20l k)
 show LeO (B20 (GX20l0 k) x0 x1) (B20 (GX20l0 (k+1)) x0 x1)
 rw [B20.eq_1,B20.eq_1]
 with_reducible repeat' first|apply ih0|exact LeO.refl _|exact LeO.none _|apply m48|apply m101|apply m102|refine LeO.ite ?_ ?_|refine LeO.cnd_ ?_ ?_|refine LeO.bind ?_ (fun _=>?_)
theorem m21l:∀k,(∀(x1:Int) (x6:Int) (x2:TQ) (x5:(List TQ)),LeO (GX21l0 k x1 x6 x2 x5) (GX21l0 (k+1) x1 x6 x2 x5))
 |0=>fun _ _ _ _ r h=>by simp [GX21l0]at h
 |k+1=>by
  have ih0:=m21l k
  refine ?_
  ·intro x1 x6 x2 x5
   show LeO (B21l0 (GX21l0 k) (FX48 k) (FX81 k) x1 x6 x2 x5) (B21l0 (GX21l0 (k+1)) (FX48 (k+1)) (FX81 (k+1)) x1 x6 x2 x5)
   unfold B21l0
   with_reducible repeat' first|apply ih0|exact LeO.refl _|exact LeO.none _|apply m48|apply m81|refine LeO.ite ?_ ?_|refine LeO.cnd_ ?_ ?_|refine LeO.bind ?_ (fun _=>?_)
theorem m21 (k:Nat) (x0:TQ) (x1:Int):LeO (FX21 k x0 x1) (FX21 (k+1) x0 x1):=by
 have ih0:=(m21l k)
 show LeO (B21 (GX21l0 k) x0 x1) (B21 (GX21l0 (k+1)) x0 x1)
 rw [B21.eq_1,B21.eq_1]
 with_reducible repeat' first|apply ih0|exact LeO.refl _|exact LeO.none _|apply m48|apply m81|refine LeO.ite ?_ ?_|refine LeO.cnd_ ?_ ?_|refine LeO.bind ?_ (fun _=>?_)
theorem m103 (k:Nat) (x0:(List (List TQ))) (x1:Int):LeO (FX103 k x0 x1) (FX103 (k+1) x0 x1):=by
 show LeO (B103 x0 x1) (B103 x0 x1)
 unfold B103
 with_reducible repeat' first|exact LeO.refl _|exact LeO.none _|refine LeO.ite ?_ ?_|refine LeO.cnd_ ?_ ?_|refine LeO.bind ?_ (fun _=>?_)
theorem m104l:∀k,(∀(x0:(List (List TQ))) (x3:Int),LeO (GX104l0 k x0 x3) (GX104l0 (k+1) x0 x3))
 |0=>fun _ _ r h=>by simp [GX104l0]at h
 |k+1=>by
  have ih0:=m104l k
  refine ?_
  ·intro x0 x3
   show LeO (B104l0 (GX104l0 k) x0 x3) (B104l0 (GX104l0 (k+1)) x0 x3)
   unfold B104l0
   with_reducible repeat' first|apply ih0|exact LeO.refl _|exact LeO.none _|refine LeO.ite ?_ ?_|refine LeO.cnd_ ?_ ?_|refine LeO.bind ?_ (fun _=>?_)
theorem m104 (k:Nat) (x0:(List (List TQ))):LeO (FX104 k x0) (FX104 (k+1) x0):=by
 have ih0:=(m104l k)
 show LeO (B104 (GX104l0 k) x0) (B104 (GX104l0 (k+1)) x0)
 rw [B104.eq_1,B104.eq_1]
 with_reducible repeat' first|apply ih0|exact LeO.refl _|exact LeO.none _|refine LeO.ite ?_ ?_|refine LeO.cnd_ ?_ ?_|refine LeO.bind ?_ (fun _=>?_)
theorem m23l:∀k,(∀(x0:(List (List TQ))) (x1:(List (List TQ))) (x6:Int) (x5:(List (List TQ))),LeO (GX23l0 k x0 x1 x6 x5) (GX23l0 (k+1) x0 x1 x6 x5))
 |0=>fun _ _ _ _ r h=>by simp [GX23l0]at h
 |k+1=>by
  have ih0:=m23l k
  refine ?_
  ·intro x0 x1 x6 x5
   show LeO (B23l0 (GX23l0 k) (FX20 k) (FX103 k) (FX104 k) x0 x1 x6 x5) (B23l0 (GX23l0 (k+1)) (FX20 (k+1)) (FX103 (k+1)) (FX104 (k+1)) x0 x1 x6 x5)
   unfold B23l0
   with_reducible repeat' first|apply ih0|exact LeO.refl _|exact LeO.none _|apply m20|apply m103|apply m104|refine LeO.ite ?_ ?_|refine LeO.cnd_ ?_ ?_|refine LeO.bind ?_ (fun _=>?_)
theorem m23 (k:Nat) (x0:(List (List TQ))) (x1:(List (List TQ))):LeO (FX23 k x0 x1) (FX23 (k+1) x0 x1):=by
 have ih0:=(m23l k)
 show LeO (B23 (GX23l0 k) x0 x1) (B23 (GX23l0 (k+1)) x0 x1)
 rw [B23.eq_1,B23.eq_1]
 with_reducible repeat' first|apply ih0|exact LeO.refl _|exact LeO.none _|apply m20|apply m103|apply m104|refine LeO.ite ?_ ?_|refine LeO.cnd_ ?_ ?_|refine LeO.bind ?_ (fun _=>?_)
theorem m24l:∀k,(∀(x0:(List TQ)) (x1:Int) (x6:Int) (x5:(List (List TQ))),LeO (GX24l0 k x0 x1 x6 x5) (GX24l0 (k+1) x0 x1 x6 x5))
 |0=>fun _ _ _ _ r h=>by simp [GX24l0]at h
 |k+1=>by
  have ih0:=m24l k
  refine ?_
  ·intro x0 x1 x6 x5
   show LeO (B24l0 (GX24l0 k) (FX104 k) x0 x1 x6 x5) (B24l0 (GX24l0 (k+1)) (FX104 (k+1)) x0 x1 x6 x5)
   unfold B24l0
   with_reducible repeat' first|apply ih0|exact LeO.refl _|exact LeO.none _|apply m104|refine LeO.ite ?_ ?_|refine LeO.cnd_ ?_ ?_|refine LeO.bind ?_ (fun _=>?_)
theorem m24 (k:Nat) (x0:(List TQ)) (x1:Int):LeO (FX24 k x0 x1) (FX24 (k+1) x0 x1):=by
 have ih0:=(m24l k)
 show LeO (B24 (GX24l0 k) x0 x1) (B24 (GX24l0 (k+1)) x0 x1)
 rw [B24.eq_1,B24.eq_1]
 with_reducible repeat' first|apply ih0|exact LeO.refl _|exact LeO.none _|apply m104|refine LeO.ite ?_ ?_|refine LeO.cnd_ ?_ ?_|refine LeO.bind ?_ (fun _=>?_)
theorem m118 (k:Nat) (x0:TQ) (x1:TQ):LeO (FX118 k x0 x1) (FX118 (k+1) x0 x1):=by
 show LeO (B118 (FX159 k) (FX161 k) (FX162 k) (FX163 k) x0 x1) (B118 (FX159 (k+1)) (FX161 (k+1)) (FX162 (k+1)) (FX163 (k+1)) x0 x1)
 unfold B118
 with_reducible repeat' first|exact LeO.refl _|exact LeO.none _|apply m159|apply m161|apply m162|apply m163|refine LeO.ite ?_ ?_|refine LeO.cnd_ ?_ ?_|refine LeO.bind ?_ (fun _=>?_)
theorem m45l:∀k,(∀(x0:(List TQ)) (x1:(List TQ)) (x6:Int) (x5:(List TQ)),LeO (GX45l0 k x0 x1 x6 x5) (GX45l0 (k+1) x0 x1 x6 x5))∧(∀(x0:(List TQ)) (x1:(List TQ)) (x6:Int) (x21:Int) (x22:Int) (x5:(List TQ)) (x7:TQ),LeO (GX45l1 k x0 x1 x6 x21 x22 x5 x7) (GX45l1 (k+1) x0 x1 x6 x21 x22 x5 x7))
 |0=>⟨fun _ _ _ _ r h=>by simp [GX45l0]at h,fun _ _ _ _ _ _ _ r h=>by simp [GX45l1]at h⟩
 |k+1=>by
  obtain⟨ih0,ih1⟩:=m45l k
  refine⟨?_,?_⟩
  ·intro x0 x1 x6 x5
   show LeO (B45l0 (GX45l1 k) (FX48 k) (FX81 k) x0 x1 x6 x5) (B45l0 (GX45l1 (k+1)) (FX48 (k+1)) (FX81 (k+1)) x0 x1 x6 x5)
   unfold B45l0
   with_reducible repeat' first|apply ih0|apply ih1|exact LeO.refl _|exact LeO.none _|apply m48|apply m81|apply m101|apply m118|refine LeO.ite ?_ ?_|refine LeO.cnd_ ?_ ?_|refine LeO.bind ?_ (fun _=>?_)
  ·intro x0 x1 x6 x21 x22 x5 x7
   show LeO (B45l1 (GX45l0 k) (GX45l1 k) (FX101 k) (FX118 k) x0 x1 x6 x21 x22 x5 x7) (B45l1 (GX45l0 (k+1)) (GX45l1 (k+1)) (FX101 (k+1)) (FX118 (k+1)) x0 x1 x6 x21 x22 x5 x7)
   unfold B45l1
   with_reducible repeat' first|apply ih0|apply ih1|exact LeO.refl _|exact LeO.none _|apply m48|apply m81|apply m101|apply m118|refine LeO.ite ?_ ?_|refine LeO.cnd_ ?_ ?_|refine LeO.bind ?_ (fun _=>?_)
theorem m45 (k:Nat) (x0:(List TQ)) (x1:(List TQ)):LeO (FX45 k x0 x1) (FX45 (k+1) x0 x1):=by
 have ih0:=(m45l k).1
 have ih1:=(m45l k).2
 show LeO (B45 (GX45l0 k) x0 x1) (B45 (GX45l0 (k+1)) x0 x1)
 rw [B45.eq_1,B45.eq_1]
 with_reducible repeat' first|apply ih0|apply ih1|exact LeO.refl _|exact LeO.none _|apply m48|apply m81|apply m101|apply m118|refine LeO.ite ?_ ?_|refine LeO.cnd_ ?_ ?_|refine LeO.bind ?_ (fun _=>?_)
theorem m25l:∀k,(∀(x0:(List TQ)) (x1:Int) (x5:(List TQ)) (x6:Int),LeO (GX25l0 k x0 x1 x5 x6) (GX25l0 (k+1) x0 x1 x5 x6))
 |0=>fun _ _ _ _ r h=>by simp [GX25l0]at h
 |k+1=>by
  have ih0:=m25l k
  refine ?_
  ·intro x0 x1 x5 x6
   show LeO (B25l0 (GX25l0 k) (FX45 k) x0 x1 x5 x6) (B25l0 (GX25l0 (k+1)) (FX45 (k+1)) x0 x1 x5 x6)
   unfold B25l0
   with_reducible repeat' first|apply ih0|exact LeO.refl _|exact LeO.none _|apply m22|apply m45|refine LeO.ite ?_ ?_|refine LeO.cnd_ ?_ ?_|refine LeO.bind ?_ (fun _=>?_)
theorem m25 (k:Nat) (x0:(List TQ)) (x1:Int):LeO (FX25 k x0 x1) (FX25 (k+1) x0 x1):=by
 have ih0:=(m25l k)
 show LeO (B25 (GX25l0 k) (FX22 k) x0 x1) (B25 (GX25l0 (k+1)) (FX22 (k+1)) x0 x1)
 unfold B25
 with_reducible repeat' first|apply ih0|exact LeO.refl _|exact LeO.none _|apply m22|apply m45|refine LeO.ite ?_ ?_|refine LeO.cnd_ ?_ ?_|refine LeO.bind ?_ (fun _=>?_)
end Go.Proofs.YtijohnkgomcdbaaGreatV
set_option maxRecDepth 10000
namespace Go.Proofs.YtijohnkgomcdbaaGreatV
open Go Go.RowKit YtijohnkgomcdbaaGreat YtijohnkgomcdbaaGreatE YtijohnkgomcdbaaGreatW.PrintWords YtijohnkgomcdbaaGreatW.PrintLast YtijohnkgomcdbaaGreatW.PrintMore
theorem EOK:EnvOk Tryz.prog E0:=⟨by kernel_rfl,by kernel_rfl,by kernel_rfl⟩
theorem HM:Tryz.prog.follows .mixedOrders=true:=Tryz.checked.mixed
section
variable {P:Program} {f:Nat}
theorem ct_three {k1 k2 k3:IntKind} {x y z:Int} {r:V} (h:∀w,CallSem P f #[.int k1 x, .int k2 y, .int k3 z] w fun v w'=>w'=w∧∀bl φ,RepV w bl φ r v):Ct P f [.a (.v (.it k1) x), .a (.v (.it k2) y), .a (.v (.it k3) z)] [] r []:=by
 refine⟨(fun q hq=>nomatch hq),fun w0 bl0 φ0 vs _ hm hr=>?_⟩
 cases hr with
 |cons h1 hr=>
  cases hr with
  |cons h2 hr=>
   cases hr with
   |cons h3 hr=>
    cases hr with
    |nil=>
     rw [rep_it.1 h1,rep_it.1 h2,rep_it.1 h3]
     exact(h w0).mono fun v w' ⟨e,hv⟩=>⟨φ0,by rw [e];exact Step.refl hm,by rw [e];exact hv _ _⟩
end
theorem ok247 (k:Nat):FeOk Tryz.prog (fe247 (FX247 k)):=by
 rintro⟨⟨x,y,c,⟨⟩⟩,⟨⟩⟩ o h v hv
 replace h:All.bits_Add64.f x y c=some o:=h
 cases hv
 unfold All.bits_Add64.f at h
 by_cases hc:0≤x∧0≤y∧0≤c∧c≤1
 ·rw [if_pos hc]at h
  cases h
  refine ct_three fun w=>Or.inr ⟨_,w,?_,rfl,fun bl φ=>⟨_,rfl, .cons (rep_it.2 rfl) (.cons (rep_it.2 rfl) .nil)⟩⟩
  show(callFunc 247 #[.int .u64 x, .int .u64 y, .int .u64 c]).run _ w=_
  rw [run_callFunc_extern Tryz.func247 (by kernel_rfl) (by kernel_rfl) (by kernel_rfl) (by kernel_rfl),run_add64 x y c hc.1 hc.2.1 hc.2.2.1 hc.2.2.2]
  rfl
 ·rw [if_neg hc]at h;cases h
theorem sub64_at (x y c:Int) (hx:0≤x) (hy:0≤y) (hc0:0≤c) (hc:c≤1) (w:World):
  (callFunc 248 #[.int .u64 x, .int .u64 y, .int .u64 c]).run Tryz.prog w= .ok (.value (.tuple #[.int .u64 ((x-y-c)%18446744073709551616), .int .u64 (if x<y+c then 1 else 0)])) w∨¬y≤18446744073709551615:=by
 by_cases hym:y≤18446744073709551615
 ·refine Or.inl ?_
  obtain⟨X,rfl⟩:=Int.eq_ofNat_of_zero_le hx
  obtain⟨Y,rfl⟩:=Int.eq_ofNat_of_zero_le hy
  obtain⟨C,rfl⟩:=Int.eq_ofNat_of_zero_le hc0
  rw [run_callFunc_extern Tryz.func248 (by kernel_rfl) (by kernel_rfl) (by kernel_rfl) (by kernel_rfl),run_sub64 X Y C (by omega)]
  have e1:(((X+18446744073709551616-Y-C)%18446744073709551616:Nat):Int)=((X:Int)-Y-C)%18446744073709551616:=by omega
  have e2:((if X<Y+C then 1 else 0:Nat):Int)=if(X:Int)<Y+C then 1 else 0:=by split<;>split<;>omega
  rw [e1,e2]
  rfl
 ·exact Or.inr hym
theorem ok248 (k:Nat):FeOk Tryz.prog (fe248 (FX248 k)):=by
 rintro⟨⟨x,y,c,⟨⟩⟩,⟨⟩⟩ o h v hv
 replace h:All.bits_Sub64.f x y c=some o:=h
 cases hv
 unfold All.bits_Sub64.f at h
 split at h
 ·rename_i hc
  cases h
  refine ct_three fun w=>Or.inr ⟨_,w,?_,rfl,fun bl φ=>⟨_,rfl, .cons (rep_it.2 rfl) (.cons (rep_it.2 rfl) .nil)⟩⟩
  exact(sub64_at x y c hc.1 hc.2.1 hc.2.2.2.1 hc.2.2.2.2 w).resolve_right fun h=>h hc.2.2.1
 ·cases h
end Go.Proofs.YtijohnkgomcdbaaGreatV
namespace Go.Proofs.YtijohnkgomcdbaaGreatV
open Go Go.RowKit YtijohnkgomcdbaaGreat YtijohnkgomcdbaaGreatE YtijohnkgomcdbaaGreatW.PrintWords YtijohnkgomcdbaaGreatW.PrintLast YtijohnkgomcdbaaGreatW.PrintMore
end Go.Proofs.YtijohnkgomcdbaaGreatV
set_option maxRecDepth 100000
namespace Go.Proofs.YtijohnkgomcdbaaGreatV
open Go Go.RowKit YtijohnkgomcdbaaGreat YtijohnkgomcdbaaGreatE YtijohnkgomcdbaaGreatW.PrintWords YtijohnkgomcdbaaGreatW.PrintLast YtijohnkgomcdbaaGreatW.PrintMore
theorem b149 (k:Nat) (x0:TI):LeO (FX149 k x0) (B149 x0):=LeO.refl _
theorem ok149 (k:Nat):FeOk Tryz.prog (fe149 (FX149 k)):=
 fe_ok EOK HM (es:=fun k=>fes149) (fun k=>fz) (N:=5) (an:=an149) (c:=cd149) (rms:=rm149) (ask:=ask149) (rsk:=rsk149) (enc:=enc149) (dec:=dec149) (tbl:=[]) (fun s=>rfl) Tryz.func149 (by kernel_rfl) (by kernel_rfl) (by kernel_rfl) (fun k=>les149)
  (fz) (fun k s0=> .nil)
  (F:=fun k s=>FX149 k s.1.1) (fun k s r h=>(e149 s).trans (b149 k s.1.1 r h)) k
theorem b245vl0 (k:Nat) (x0:(List Int)) (x3:Int):LeO (GX245vl0 (k+1) x0 x3) (B245vl0 (GX245vl0 k) x0 x3):=by rw [GX245vl0];exact LeO.refl _
theorem b245v (k:Nat) (x0:(List Int)):LeO (FX245v k x0) (B245v (GX245vl0 k) x0):=LeO.refl _
theorem ok245v (k:Nat):FeOk Tryz.prog (fe245v (FX245v k)):=
 fe_ok EOK HM (es:=fun k=>fes245v) (fun k=>fz) (N:=21) (an:=an245v) (c:=cd245v) (rms:=rm245v) (ask:=ask245v) (rsk:=rsk245v) (enc:=enc245v) (dec:=dec245v) (tbl:=[p245v.getD 0 ⟨0,[], .skip⟩]) (fun s=>rfl) Tryz.func245 (by kernel_rfl) (by kernel_rfl) (by kernel_rfl) (fun k=>les245v (GX245vl0 k))
  (fc ⟨fun s=>rfl,fz⟩) (fun k s0=> .cons (by kernel_rfl) (by kernel_rfl) (fun s r h=>(e245vl0 (GX245vl0 k) s0 s).trans (b245vl0 k s.1.1 s.1.2.1 r h)) (.nil))
  (F:=fun k s=>FX245v k s.1.1) (fun k s r h=>(e245v (GX245vl0 k) s).trans (b245v k s.1.1 r h)) k
theorem b223l0 (k:Nat) (x17:(List Int)) (x18:Int) (x19:Int) (x3:(List Int)):LeO (GX223l0 (k+1) x17 x18 x19 x3) (B223l0 (GX223l1 k) (GX223l2 k) x17 x18 x19 x3):=by rw [GX223l0];exact LeO.refl _
theorem b223l1 (k:Nat) (x4:Int) (x5:Int) (x17:(List Int)) (x18:Int) (x19:Int) (x24:Int) (x3:(List Int)):LeO (GX223l1 (k+1) x4 x5 x17 x18 x19 x24 x3) (B223l1 (GX223l0 k) (GX223l1 k) x4 x5 x17 x18 x19 x24 x3):=by rw [GX223l1];exact LeO.refl _
theorem b223l2 (k:Nat) (x7:Int) (x3:(List Int)):LeO (GX223l2 (k+1) x7 x3) (B223l2 (GX223l2 k) x7 x3):=by rw [GX223l2];exact LeO.refl _
theorem b223 (k:Nat) (x0:(List Int)):LeO (FX223 k x0) (B223 (GX223l0 k) (FX245v k) x0):=LeO.refl _
theorem ok223 (k:Nat):FeOk Tryz.prog (fe223 (FX223 k)):=
 fe_ok EOK HM (es:=fun k=>fes223 (FX245v k)) (fun k=>fc ⟨ok245v k,fz⟩) (N:=55) (an:=an223) (c:=cd223) (rms:=rm223) (ask:=ask223) (rsk:=rsk223) (enc:=enc223) (dec:=dec223) (tbl:=[p223.getD 0 ⟨0,[], .skip⟩,p223.getD 1 ⟨0,[], .skip⟩,p223.getD 2 ⟨0,[], .skip⟩]) (fun s=>rfl) Tryz.func223 (by kernel_rfl) (by kernel_rfl) (by kernel_rfl) (fun k=>les223 (GX223l0 k) (GX223l1 k) (GX223l2 k))
  (fc ⟨fun s=>rfl,fc ⟨fun s=>rfl,fc ⟨fun s=>rfl,fz⟩⟩⟩) (fun k s0=> .cons (by kernel_rfl) (by kernel_rfl) (fun s r h=>(e223l0 (GX223l0 k) (GX223l1 k) (GX223l2 k) (FX245v k) s0 s).trans (b223l0 k s.1.1 s.1.2.1 s.1.2.2.1 s.2.1 r h)) (.cons (by kernel_rfl) (by kernel_rfl) (fun s r h=>(e223l1 (GX223l0 k) (GX223l1 k) (GX223l2 k) (FX245v k) s0 s).trans (b223l1 k s.1.1 s.1.2.1 s.1.2.2.1 s.1.2.2.2.1 s.1.2.2.2.2.1 s.1.2.2.2.2.2.1 s.2.1 r h)) (.cons (by kernel_rfl) (by kernel_rfl) (fun s r h=>(e223l2 (GX223l0 k) (GX223l1 k) (GX223l2 k) (FX245v k) s0 s).trans (b223l2 k s.1.1 s.2.1 r h)) (.nil))))
  (F:=fun k s=>FX223 k s.1.1) (fun k s r h=>(e223 (GX223l0 k) (GX223l1 k) (GX223l2 k) (FX245v k) s).trans (b223 k s.1.1 r h)) k
theorem b193 (k:Nat) (x0:Int):LeO (FX193 k x0) (B193 (FX223 k) x0):=LeO.refl _
theorem ok193 (k:Nat):FeOk Tryz.prog (fe193 (FX193 k)):=
 fe_ok EOK HM (es:=fun k=>fes193 (FX223 k)) (fun k=>fc ⟨ok223 k,fz⟩) (N:=6) (an:=an193) (c:=cd193) (rms:=rm193) (ask:=ask193) (rsk:=rsk193) (enc:=enc193) (dec:=dec193) (tbl:=[]) (fun s=>rfl) Tryz.func193 (by kernel_rfl) (by kernel_rfl) (by kernel_rfl) (fun k=>les193)
  (fz) (fun k s0=> .nil)
  (F:=fun k s=>FX193 k s.1.1) (fun k s r h=>(e193 (FX223 k) s).trans (b193 k s.1.1 r h)) k
theorem b150 (k:Nat) (x0:Int):LeO (FX150 k x0) (B150 (FX193 k) x0):=LeO.refl _
theorem ok150 (k:Nat):FeOk Tryz.prog (fe150 (FX150 k)):=
 fe_ok EOK HM (es:=fun k=>fes150 (FX193 k)) (fun k=>fc ⟨ok193 k,fz⟩) (N:=14) (an:=an150) (c:=cd150) (rms:=rm150) (ask:=ask150) (rsk:=rsk150) (enc:=enc150) (dec:=dec150) (tbl:=[]) (fun s=>rfl) Tryz.func150 (by kernel_rfl) (by kernel_rfl) (by kernel_rfl) (fun k=>les150)
  (fz) (fun k s0=> .nil)
  (F:=fun k s=>FX150 k s.1.1) (fun k s r h=>(e150 (FX193 k) s).trans (b150 k s.1.1 r h)) k
theorem b89 (k:Nat) (x0:Int):LeO (FX89 k x0) (B89 (FX149 k) (FX150 k) x0):=LeO.refl _
theorem ok89 (k:Nat):FeOk Tryz.prog (fe89 (FX89 k)):=
 fe_ok EOK HM (es:=fun k=>fes89 (FX149 k) (FX150 k)) (fun k=>fc ⟨ok149 k,fc ⟨ok150 k,fz⟩⟩) (N:=6) (an:=an89) (c:=cd89) (rms:=rm89) (ask:=ask89) (rsk:=rsk89) (enc:=enc89) (dec:=dec89) (tbl:=[]) (fun s=>rfl) Tryz.func89 (by kernel_rfl) (by kernel_rfl) (by kernel_rfl) (fun k=>les89)
  (fz) (fun k s0=> .nil)
  (F:=fun k s=>FX89 k s.1.1) (fun k s r h=>(e89 (FX149 k) (FX150 k) s).trans (b89 k s.1.1 r h)) k
theorem b152 (k:Nat) (x0:TQ):LeO (FX152 k x0) (B152 x0):=LeO.refl _
theorem ok152 (k:Nat):FeOk Tryz.prog (fe152 (FX152 k)):=
 fe_ok EOK HM (es:=fun k=>fes152) (fun k=>fz) (N:=7) (an:=an152) (c:=cd152) (rms:=rm152) (ask:=ask152) (rsk:=rsk152) (enc:=enc152) (dec:=dec152) (tbl:=[]) (fun s=>rfl) Tryz.func152 (by kernel_rfl) (by kernel_rfl) (by kernel_rfl) (fun k=>les152)
  (fz) (fun k s0=> .nil)
  (F:=fun k s=>FX152 k s.1.1) (fun k s r h=>(e152 s).trans (b152 k s.1.1 r h)) k
theorem b214 (k:Nat) (x0:ByteArray):LeO (FX214 k x0) (B214 x0):=LeO.refl _
theorem ok214 (k:Nat):FeOk Tryz.prog (fe214 (FX214 k)):=
 fe_ok EOK HM (es:=fun k=>fes214) (fun k=>fz) (N:=14) (an:=an214) (c:=cd214) (rms:=rm214) (ask:=ask214) (rsk:=rsk214) (enc:=enc214) (dec:=dec214) (tbl:=[]) (fun s=>rfl) Tryz.func214 (by kernel_rfl) (by kernel_rfl) (by kernel_rfl) (fun k=>les214)
  (fz) (fun k s0=> .nil)
  (F:=fun k s=>FX214 k s.1.1) (fun k s r h=>(e214 s).trans (b214 k s.1.1 r h)) k
theorem b243 (k:Nat):LeO (FX243 k) (B243):=LeO.refl _
theorem ok243 (k:Nat):FeOk Tryz.prog (fe243 (FX243 k)):=
 fe_ok EOK HM (es:=fun k=>fes243) (fun k=>fz) (N:=2) (an:=an243) (c:=cd243) (rms:=rm243) (ask:=ask243) (rsk:=rsk243) (enc:=enc243) (dec:=dec243) (tbl:=[]) (fun s=>rfl) Tryz.func243 (by kernel_rfl) (by kernel_rfl) (by kernel_rfl) (fun k=>les243)
  (fz) (fun k s0=> .nil)
  (F:=fun k s=>FX243 k) (fun k s r h=>(e243 s).trans (b243 k r h)) k
theorem b213 (k:Nat) (x0:TI):LeO (FX213 k x0) (B213 (FX214 k) (FX243 k) x0):=LeO.refl _
theorem ok213 (k:Nat):FeOk Tryz.prog (fe213 (FX213 k)):=
 fe_ok EOK HM (es:=fun k=>fes213 (FX214 k) (FX243 k)) (fun k=>fc ⟨ok214 k,fc ⟨ok243 k,fz⟩⟩) (N:=21) (an:=an213) (c:=cd213) (rms:=rm213) (ask:=ask213) (rsk:=rsk213) (enc:=enc213) (dec:=dec213) (tbl:=[]) (fun s=>rfl) Tryz.func213 (by kernel_rfl) (by kernel_rfl) (by kernel_rfl) (fun k=>les213)
  (fz) (fun k s0=> .nil)
  (F:=fun k s=>FX213 k s.1.1) (fun k s r h=>(e213 (FX214 k) (FX243 k) s).trans (b213 k s.1.1 r h)) k
theorem b245l0 (k:Nat) (x3:Int) (y0:(List Int)):LeO (GX245l0 (k+1) x3 y0) (B245l0 (GX245l0 k) x3 y0):=by rw [GX245l0];exact LeO.refl _
theorem b245 (k:Nat) (y0:(List Int)):LeO (FX245 k y0) (B245 (GX245l0 k) y0):=LeO.refl _
theorem ok245 (k:Nat):FeOk Tryz.prog (fe245 (FX245 k)):=
 fe_ok EOK HM (es:=fun k=>fes245) (fun k=>fz) (N:=21) (an:=an245) (c:=cd245) (rms:=rm245) (ask:=ask245) (rsk:=rsk245) (enc:=enc245) (dec:=dec245) (tbl:=[p245.getD 0 ⟨0,[], .skip⟩]) (fun s=>rfl) Tryz.func245 (by kernel_rfl) (by kernel_rfl) (by kernel_rfl) (fun k=>les245 (GX245l0 k))
  (fc ⟨fun s=>rfl,fz⟩) (fun k s0=> .cons (by kernel_rfl) (by kernel_rfl) (fun s r h=>(e245l0 (GX245l0 k) s0 s).trans (b245l0 k s.1.1 s.2.1 r h)) (.nil))
  (F:=fun k s=>FX245 k s.2.1) (fun k s r h=>(e245 (GX245l0 k) s).trans (b245 k s.2.1 r h)) k
theorem b225l0 (k:Nat) (x0:ByteArray) (x12:Int) (x13:Int) (x3:(List Int)):LeO (GX225l0 (k+1) x0 x12 x13 x3) (B225l0 (GX225l0 k) (FX245 k) x0 x12 x13 x3):=by rw [GX225l0];exact LeO.refl _
theorem b225 (k:Nat) (x0:ByteArray):LeO (FX225 k x0) (B225 (GX225l0 k) x0):=LeO.refl _
theorem ok225 (k:Nat):FeOk Tryz.prog (fe225 (FX225 k)):=
 fe_ok EOK HM (es:=fun k=>fes225 (FX245 k)) (fun k=>fc ⟨ok245 k,fz⟩) (N:=39) (an:=an225) (c:=cd225) (rms:=rm225) (ask:=ask225) (rsk:=rsk225) (enc:=enc225) (dec:=dec225) (tbl:=[p225.getD 0 ⟨0,[], .skip⟩]) (fun s=>rfl) Tryz.func225 (by kernel_rfl) (by kernel_rfl) (by kernel_rfl) (fun k=>les225 (GX225l0 k))
  (fc ⟨fun s=>rfl,fz⟩) (fun k s0=> .cons (by kernel_rfl) (by kernel_rfl) (fun s r h=>(e225l0 (GX225l0 k) (FX245 k) s0 s).trans (b225l0 k s.1.1 s.1.2.1 s.1.2.2.1 s.2.1 r h)) (.nil))
  (F:=fun k s=>FX225 k s.1.1) (fun k s r h=>(e225 (GX225l0 k) (FX245 k) s).trans (b225 k s.1.1 r h)) k
theorem b276l0 (k:Nat) (x0:(List Int)) (x1:(List Int)) (x5:Int):LeO (GX276l0 (k+1) x0 x1 x5) (B276l0 (GX276l0 k) x0 x1 x5):=by rw [GX276l0];exact LeO.refl _
theorem b276 (k:Nat) (x0:(List Int)) (x1:(List Int)):LeO (FX276 k x0 x1) (B276 (GX276l0 k) x0 x1):=LeO.refl _
theorem ok276 (k:Nat):FeOk Tryz.prog (fe276 (FX276 k)):=
 fe_ok EOK HM (es:=fun k=>fes276) (fun k=>fz) (N:=41) (an:=an276) (c:=cd276) (rms:=rm276) (ask:=ask276) (rsk:=rsk276) (enc:=enc276) (dec:=dec276) (tbl:=[p276.getD 0 ⟨0,[], .skip⟩]) (fun s=>rfl) Tryz.func276 (by kernel_rfl) (by kernel_rfl) (by kernel_rfl) (fun k=>les276 (GX276l0 k))
  (fc ⟨fun s=>rfl,fz⟩) (fun k s0=> .cons (by kernel_rfl) (by kernel_rfl) (fun s r h=>(e276l0 (GX276l0 k) s0 s).trans (b276l0 k s.1.1 s.1.2.1 s.1.2.2.1 r h)) (.nil))
  (F:=fun k s=>FX276 k s.1.1 s.1.2.1) (fun k s r h=>(e276 (GX276l0 k) s).trans (b276 k s.1.1 s.1.2.1 r h)) k
theorem b297 (k:Nat) (x0:Int):LeO (FX297 k x0) (B297 x0):=LeO.refl _
theorem ok297 (k:Nat):FeOk Tryz.prog (fe297 (FX297 k)):=
 fe_ok EOK HM (es:=fun k=>fes297) (fun k=>fz) (N:=25) (an:=an297) (c:=cd297) (rms:=rm297) (ask:=ask297) (rsk:=rsk297) (enc:=enc297) (dec:=dec297) (tbl:=[]) (fun s=>rfl) Tryz.func297 (by kernel_rfl) (by kernel_rfl) (by kernel_rfl) (fun k=>les297)
  (fz) (fun k s0=> .nil)
  (F:=fun k s=>FX297 k s.1.1) (fun k s r h=>(e297 s).trans (b297 k s.1.1 r h)) k
theorem b278 (k:Nat) (x0:Int):LeO (FX278 k x0) (B278 (FX297 k) x0):=LeO.refl _
theorem ok278 (k:Nat):FeOk Tryz.prog (fe278 (FX278 k)):=
 fe_ok EOK HM (es:=fun k=>fes278 (FX297 k)) (fun k=>fc ⟨ok297 k,fz⟩) (N:=6) (an:=an278) (c:=cd278) (rms:=rm278) (ask:=ask278) (rsk:=rsk278) (enc:=enc278) (dec:=dec278) (tbl:=[]) (fun s=>rfl) Tryz.func278 (by kernel_rfl) (by kernel_rfl) (by kernel_rfl) (fun k=>les278)
  (fz) (fun k s0=> .nil)
  (F:=fun k s=>FX278 k s.1.1) (fun k s r h=>(e278 (FX297 k) s).trans (b278 k s.1.1 r h)) k
theorem b277l0 (k:Nat) (x2:Int) (x8:Int) (x9:Int) (x10:Int) (x11:Int) (x13:Int) (x14:Int) (x15:Int) (x16:Int):LeO (GX277l0 (k+1) x2 x8 x9 x10 x11 x13 x14 x15 x16) (B277l0 (GX277l0 k) (GX277l1 k) x2 x8 x9 x10 x11 x13 x14 x15 x16):=by rw [GX277l0];exact LeO.refl _
theorem b277l1 (k:Nat) (x2:Int) (x8:Int) (x9:Int) (x10:Int) (x14:Int) (x15:Int) (x16:Int) (x17:Int) (x18:Int):LeO (GX277l1 (k+1) x2 x8 x9 x10 x14 x15 x16 x17 x18) (B277l1 (GX277l1 k) x2 x8 x9 x10 x14 x15 x16 x17 x18):=by rw [GX277l1];exact LeO.refl _
theorem b277 (k:Nat) (x0:Int) (x1:Int) (x2:Int):LeO (FX277 k x0 x1 x2) (B277 (GX277l0 k) (FX278 k) x0 x1 x2):=LeO.refl _
theorem ok277 (k:Nat):FeOk Tryz.prog (fe277 (FX277 k)):=
 fe_ok EOK HM (es:=fun k=>fes277 (FX278 k)) (fun k=>fc ⟨ok278 k,fz⟩) (N:=135) (an:=an277) (c:=cd277) (rms:=rm277) (ask:=ask277) (rsk:=rsk277) (enc:=enc277) (dec:=dec277) (tbl:=[p277.getD 0 ⟨0,[], .skip⟩,p277.getD 1 ⟨0,[], .skip⟩]) (fun s=>rfl) Tryz.func277 (by kernel_rfl) (by kernel_rfl) (by kernel_rfl) (fun k=>les277 (GX277l0 k) (GX277l1 k))
  (fc ⟨fun s=>rfl,fc ⟨fun s=>rfl,fz⟩⟩) (fun k s0=> .cons (by kernel_rfl) (by kernel_rfl) (fun s r h=>(e277l0 (GX277l0 k) (GX277l1 k) (FX278 k) s0 s).trans (b277l0 k s.1.1 s.1.2.1 s.1.2.2.1 s.1.2.2.2.1 s.1.2.2.2.2.1 s.1.2.2.2.2.2.1 s.1.2.2.2.2.2.2.1 s.1.2.2.2.2.2.2.2.1 s.1.2.2.2.2.2.2.2.2.1 r h)) (.cons (by kernel_rfl) (by kernel_rfl) (fun s r h=>(e277l1 (GX277l0 k) (GX277l1 k) (FX278 k) s0 s).trans (b277l1 k s.1.1 s.1.2.1 s.1.2.2.1 s.1.2.2.2.1 s.1.2.2.2.2.1 s.1.2.2.2.2.2.1 s.1.2.2.2.2.2.2.1 s.1.2.2.2.2.2.2.2.1 s.1.2.2.2.2.2.2.2.2.1 r h)) (.nil)))
  (F:=fun k s=>FX277 k s.1.1 s.1.2.1 s.1.2.2.1) (fun k s r h=>(e277 (GX277l0 k) (GX277l1 k) (FX278 k) s).trans (b277 k s.1.1 s.1.2.1 s.1.2.2.1 r h)) k
theorem b279l0 (k:Nat) (x1:Int) (x12:(List Int)) (x13:Int) (x14:Int) (x5:(List Int)):LeO (GX279l0 (k+1) x1 x12 x13 x14 x5) (B279l0 (GX279l0 k) x1 x12 x13 x14 x5):=by rw [GX279l0];exact LeO.refl _
theorem b279 (k:Nat) (x0:(List Int)) (x1:Int):LeO (FX279 k x0 x1) (B279 (GX279l0 k) x0 x1):=LeO.refl _
theorem ok279 (k:Nat):FeOk Tryz.prog (fe279 (FX279 k)):=
 fe_ok EOK HM (es:=fun k=>fes279) (fun k=>fz) (N:=40) (an:=an279) (c:=cd279) (rms:=rm279) (ask:=ask279) (rsk:=rsk279) (enc:=enc279) (dec:=dec279) (tbl:=[p279.getD 0 ⟨0,[], .skip⟩]) (fun s=>rfl) Tryz.func279 (by kernel_rfl) (by kernel_rfl) (by kernel_rfl) (fun k=>les279 (GX279l0 k))
  (fc ⟨fun s=>rfl,fz⟩) (fun k s0=> .cons (by kernel_rfl) (by kernel_rfl) (fun s r h=>(e279l0 (GX279l0 k) s0 s).trans (b279l0 k s.1.1 s.1.2.1 s.1.2.2.1 s.1.2.2.2.1 s.2.1 r h)) (.nil))
  (F:=fun k s=>FX279 k s.1.1 s.1.2.1) (fun k s r h=>(e279 (GX279l0 k) s).trans (b279 k s.1.1 s.1.2.1 r h)) k
theorem b246 (k:Nat) (x0:Int) (x1:Int):LeO (FX246 k x0 x1) (B246 x0 x1):=LeO.refl _
theorem ok246 (k:Nat):FeOk Tryz.prog (fe246 (FX246 k)):=
 fe_ok EOK HM (es:=fun k=>fes246) (fun k=>fz) (N:=51) (an:=an246) (c:=cd246) (rms:=rm246) (ask:=ask246) (rsk:=rsk246) (enc:=enc246) (dec:=dec246) (tbl:=[]) (fun s=>rfl) Tryz.func246 (by kernel_rfl) (by kernel_rfl) (by kernel_rfl) (fun k=>les246)
  (fz) (fun k s0=> .nil)
  (F:=fun k s=>FX246 k s.1.1 s.1.2.1) (fun k s r h=>(e246 s).trans (b246 k s.1.1 s.1.2.1 r h)) k
theorem b280l0 (k:Nat) (x1:(List Int)) (x5:Int) (x6:Int) (x7:Int) (x8:Int) (y0:(List Int)):LeO (GX280l0 (k+1) x1 x5 x6 x7 x8 y0) (B280l0 (GX280l0 k) (GX280l1 k) (FX246 k) (FX247 k) x1 x5 x6 x7 x8 y0):=by rw [GX280l0];exact LeO.refl _
theorem b280l1 (k:Nat) (x1:(List Int)) (x5:Int) (x6:Int) (x11:Int) (x12:Int) (x104:Int) (x105:Int) (y0:(List Int)):LeO (GX280l1 (k+1) x1 x5 x6 x11 x12 x104 x105 y0) (B280l1 (GX280l1 k) (GX280l2 k) (FX246 k) (FX247 k) (FX248 k) x1 x5 x6 x11 x12 x104 x105 y0):=by rw [GX280l1];exact LeO.refl _
theorem b280l2 (k:Nat) (x1:(List Int)) (x5:Int) (x6:Int) (x17:Int) (x156:Int) (x157:Int) (y0:(List Int)):LeO (GX280l2 (k+1) x1 x5 x6 x17 x156 x157 y0) (B280l2 (GX280l2 k) (FX247 k) x1 x5 x6 x17 x156 x157 y0):=by rw [GX280l2];exact LeO.refl _
theorem b280 (k:Nat) (x1:(List Int)) (y0:(List Int)):LeO (FX280 k x1 y0) (B280 (GX280l0 k) (FX247 k) (FX277 k) x1 y0):=LeO.refl _
theorem ok280 (k:Nat):FeOk Tryz.prog (fe280 (FX280 k)):=
 fe_ok EOK HM (es:=fun k=>fes280 (FX246 k) (FX247 k) (FX248 k) (FX277 k)) (fun k=>fc ⟨ok246 k,fc ⟨ok247 k,fc ⟨ok248 k,fc ⟨ok277 k,fz⟩⟩⟩⟩) (N:=186) (an:=an280) (c:=cd280) (rms:=rm280) (ask:=ask280) (rsk:=rsk280) (enc:=enc280) (dec:=dec280) (tbl:=[p280.getD 0 ⟨0,[], .skip⟩,p280.getD 1 ⟨0,[], .skip⟩,p280.getD 2 ⟨0,[], .skip⟩]) (fun s=>rfl) Tryz.func280 (by kernel_rfl) (by kernel_rfl) (by kernel_rfl) (fun k=>les280 (GX280l0 k) (GX280l1 k) (GX280l2 k))
  (fc ⟨fun s=>rfl,fc ⟨fun s=>rfl,fc ⟨fun s=>rfl,fz⟩⟩⟩) (fun k s0=> .cons (by kernel_rfl) (by kernel_rfl) (fun s r h=>(e280l0 (GX280l0 k) (GX280l1 k) (GX280l2 k) (FX246 k) (FX247 k) (FX248 k) (FX277 k) s0 s).trans (b280l0 k s.1.1 s.1.2.1 s.1.2.2.1 s.1.2.2.2.1 s.1.2.2.2.2.1 s.2.1 r h)) (.cons (by kernel_rfl) (by kernel_rfl) (fun s r h=>(e280l1 (GX280l0 k) (GX280l1 k) (GX280l2 k) (FX246 k) (FX247 k) (FX248 k) (FX277 k) s0 s).trans (b280l1 k s.1.1 s.1.2.1 s.1.2.2.1 s.1.2.2.2.1 s.1.2.2.2.2.1 s.1.2.2.2.2.2.1 s.1.2.2.2.2.2.2.1 s.2.1 r h)) (.cons (by kernel_rfl) (by kernel_rfl) (fun s r h=>(e280l2 (GX280l0 k) (GX280l1 k) (GX280l2 k) (FX246 k) (FX247 k) (FX248 k) (FX277 k) s0 s).trans (b280l2 k s.1.1 s.1.2.1 s.1.2.2.1 s.1.2.2.2.1 s.1.2.2.2.2.1 s.1.2.2.2.2.2.1 s.2.1 r h)) (.nil))))
  (F:=fun k s=>FX280 k s.1.1 s.2.1) (fun k s r h=>(e280 (GX280l0 k) (GX280l1 k) (GX280l2 k) (FX246 k) (FX247 k) (FX248 k) (FX277 k) s).trans (b280 k s.1.1 s.2.1 r h)) k
theorem b244l0 (k:Nat) (x0:(List Int)) (x1:(List Int)) (x7:Int) (x8:Int) (x6:(List Int)):LeO (GX244l0 (k+1) x0 x1 x7 x8 x6) (B244l0 (GX244l0 k) (FX245 k) (FX277 k) x0 x1 x7 x8 x6):=by rw [GX244l0];exact LeO.refl _
theorem b244l1 (k:Nat) (x9:Int) (x10:(List Int)) (x12:Int) (x14:Int) (x11:(List Int)) (x13:(List Int)):LeO (GX244l1 (k+1) x9 x10 x12 x14 x11 x13) (B244l1 (GX244l1 k) (GX244l2 k) (FX280 k) x9 x10 x12 x14 x11 x13):=by rw [GX244l1];exact LeO.refl _
theorem b244l2 (k:Nat) (x9:Int) (x12:Int) (x96:Int) (x97:Int) (x11:(List Int)) (x13:(List Int)):LeO (GX244l2 (k+1) x9 x12 x96 x97 x11 x13) (B244l2 (GX244l2 k) (FX245 k) x9 x12 x96 x97 x11 x13):=by rw [GX244l2];exact LeO.refl _
theorem b244 (k:Nat) (x0:(List Int)) (x1:(List Int)):LeO (FX244 k x0 x1) (B244 (GX244l0 k) (GX244l1 k) (FX245 k) (FX276 k) (FX278 k) (FX279 k) x0 x1):=LeO.refl _
theorem ok244 (k:Nat):FeOk Tryz.prog (fe244 (FX244 k)):=
 fe_ok EOK HM (es:=fun k=>fes244 (FX245 k) (FX276 k) (FX277 k) (FX278 k) (FX279 k) (FX280 k)) (fun k=>fc ⟨ok245 k,fc ⟨ok276 k,fc ⟨ok277 k,fc ⟨ok278 k,fc ⟨ok279 k,fc ⟨ok280 k,fz⟩⟩⟩⟩⟩⟩) (N:=137) (an:=an244) (c:=cd244) (rms:=rm244) (ask:=ask244) (rsk:=rsk244) (enc:=enc244) (dec:=dec244) (tbl:=[p244.getD 0 ⟨0,[], .skip⟩,p244.getD 1 ⟨0,[], .skip⟩,p244.getD 2 ⟨0,[], .skip⟩]) (fun s=>rfl) Tryz.func244 (by kernel_rfl) (by kernel_rfl) (by kernel_rfl) (fun k=>les244 (GX244l0 k) (GX244l1 k) (GX244l2 k))
  (fc ⟨fun s=>rfl,fc ⟨fun s=>rfl,fc ⟨fun s=>rfl,fz⟩⟩⟩) (fun k s0=> .cons (by kernel_rfl) (by kernel_rfl) (fun s r h=>(e244l0 (GX244l0 k) (GX244l1 k) (GX244l2 k) (FX245 k) (FX276 k) (FX277 k) (FX278 k) (FX279 k) (FX280 k) s0 s).trans (b244l0 k s.1.1 s.1.2.1 s.1.2.2.1 s.1.2.2.2.1 s.2.1 r h)) (.cons (by kernel_rfl) (by kernel_rfl) (fun s r h=>(e244l1 (GX244l0 k) (GX244l1 k) (GX244l2 k) (FX245 k) (FX276 k) (FX277 k) (FX278 k) (FX279 k) (FX280 k) s0 s).trans (b244l1 k s.1.1 s.1.2.1 s.1.2.2.1 s.1.2.2.2.1 s.2.1 s.2.2.1 r h)) (.cons (by kernel_rfl) (by kernel_rfl) (fun s r h=>(e244l2 (GX244l0 k) (GX244l1 k) (GX244l2 k) (FX245 k) (FX276 k) (FX277 k) (FX278 k) (FX279 k) (FX280 k) s0 s).trans (b244l2 k s.1.1 s.1.2.1 s.1.2.2.1 s.1.2.2.2.1 s.2.1 s.2.2.1 r h)) (.nil))))
  (F:=fun k s=>FX244 k s.1.1 s.1.2.1) (fun k s r h=>(e244 (GX244l0 k) (GX244l1 k) (GX244l2 k) (FX245 k) (FX276 k) (FX277 k) (FX278 k) (FX279 k) (FX280 k) s).trans (b244 k s.1.1 s.1.2.1 r h)) k
theorem b215l0 (k:Nat) (x5:(List Int)) (x6:(List Int)):LeO (GX215l0 (k+1) x5 x6) (B215l0 (GX215l0 k) (FX223 k) (FX244 k) x5 x6):=by rw [GX215l0];exact LeO.refl _
theorem b215 (k:Nat) (x0:ByteArray) (x1:ByteArray):LeO (FX215 k x0 x1) (B215 (GX215l0 k) (FX225 k) x0 x1):=LeO.refl _
theorem ok215 (k:Nat):FeOk Tryz.prog (fe215 (FX215 k)):=
 fe_ok EOK HM (es:=fun k=>fes215 (FX223 k) (FX225 k) (FX244 k)) (fun k=>fc ⟨ok223 k,fc ⟨ok225 k,fc ⟨ok244 k,fz⟩⟩⟩) (N:=26) (an:=an215) (c:=cd215) (rms:=rm215) (ask:=ask215) (rsk:=rsk215) (enc:=enc215) (dec:=dec215) (tbl:=[p215.getD 0 ⟨0,[], .skip⟩]) (fun s=>rfl) Tryz.func215 (by kernel_rfl) (by kernel_rfl) (by kernel_rfl) (fun k=>les215 (GX215l0 k))
  (fc ⟨fun s=>rfl,fz⟩) (fun k s0=> .cons (by kernel_rfl) (by kernel_rfl) (fun s r h=>(e215l0 (GX215l0 k) (FX223 k) (FX225 k) (FX244 k) s0 s).trans (b215l0 k s.1.1 s.1.2.1 r h)) (.nil))
  (F:=fun k s=>FX215 k s.1.1 s.1.2.1) (fun k s r h=>(e215 (GX215l0 k) (FX223 k) (FX225 k) (FX244 k) s).trans (b215 k s.1.1 s.1.2.1 r h)) k
theorem b172 (k:Nat) (x0:TQ):LeO (FX172 k x0) (B172 (FX213 k) (FX214 k) (FX215 k) x0):=LeO.refl _
theorem ok172 (k:Nat):FeOk Tryz.prog (fe172 (FX172 k)):=
 fe_ok EOK HM (es:=fun k=>fes172 (FX213 k) (FX214 k) (FX215 k)) (fun k=>fc ⟨ok213 k,fc ⟨ok214 k,fc ⟨ok215 k,fz⟩⟩⟩) (N:=44) (an:=an172) (c:=cd172) (rms:=rm172) (ask:=ask172) (rsk:=rsk172) (enc:=enc172) (dec:=dec172) (tbl:=[]) (fun s=>rfl) Tryz.func172 (by kernel_rfl) (by kernel_rfl) (by kernel_rfl) (fun k=>les172)
  (fz) (fun k s0=> .nil)
  (F:=fun k s=>FX172 k s.1.1) (fun k s r h=>(e172 (FX213 k) (FX214 k) (FX215 k) s).trans (b172 k s.1.1 r h)) k
theorem b120l0 (k:Nat) (x0:(List TQ)) (x9:(List TQ)) (x10:Int) (x11:Int):LeO (GX120l0 (k+1) x0 x9 x10 x11) (B120l0 (GX120l0 k) (FX152 k) (FX172 k) x0 x9 x10 x11):=by rw [GX120l0];exact LeO.refl _
theorem b120 (k:Nat) (x0:(List TQ)):LeO (FX120 k x0) (B120 (GX120l0 k) x0):=LeO.refl _
theorem ok120 (k:Nat):FeOk Tryz.prog (fe120 (FX120 k)):=
 fe_ok EOK HM (es:=fun k=>fes120 (FX152 k) (FX172 k)) (fun k=>fc ⟨ok152 k,fc ⟨ok172 k,fz⟩⟩) (N:=33) (an:=an120) (c:=cd120) (rms:=rm120) (ask:=ask120) (rsk:=rsk120) (enc:=enc120) (dec:=dec120) (tbl:=[p120.getD 0 ⟨0,[], .skip⟩]) (fun s=>rfl) Tryz.func120 (by kernel_rfl) (by kernel_rfl) (by kernel_rfl) (fun k=>les120 (GX120l0 k))
  (fc ⟨fun s=>rfl,fz⟩) (fun k s0=> .cons (by kernel_rfl) (by kernel_rfl) (fun s r h=>(e120l0 (GX120l0 k) (FX152 k) (FX172 k) s0 s).trans (b120l0 k s.1.1 s.1.2.1 s.1.2.2.1 s.1.2.2.2.1 r h)) (.nil))
  (F:=fun k s=>FX120 k s.1.1) (fun k s r h=>(e120 (GX120l0 k) (FX152 k) (FX172 k) s).trans (b120 k s.1.1 r h)) k
theorem b171 (k:Nat) (x0:TQ):LeO (FX171 k x0) (B171 x0):=LeO.refl _
theorem ok171 (k:Nat):FeOk Tryz.prog (fe171 (FX171 k)):=
 fe_ok EOK HM (es:=fun k=>fes171) (fun k=>fz) (N:=6) (an:=an171) (c:=cd171) (rms:=rm171) (ask:=ask171) (rsk:=rsk171) (enc:=enc171) (dec:=dec171) (tbl:=[]) (fun s=>rfl) Tryz.func171 (by kernel_rfl) (by kernel_rfl) (by kernel_rfl) (fun k=>les171)
  (fz) (fun k s0=> .nil)
  (F:=fun k s=>FX171 k s.1.1) (fun k s r h=>(e171 s).trans (b171 k s.1.1 r h)) k
theorem b170 (k:Nat) (x0:TQ):LeO (FX170 k x0) (B170 (FX171 k) x0):=LeO.refl _
theorem ok170 (k:Nat):FeOk Tryz.prog (fe170 (FX170 k)):=
 fe_ok EOK HM (es:=fun k=>fes170 (FX171 k)) (fun k=>fc ⟨ok171 k,fz⟩) (N:=6) (an:=an170) (c:=cd170) (rms:=rm170) (ask:=ask170) (rsk:=rsk170) (enc:=enc170) (dec:=dec170) (tbl:=[]) (fun s=>rfl) Tryz.func170 (by kernel_rfl) (by kernel_rfl) (by kernel_rfl) (fun k=>les170)
  (fz) (fun k s0=> .nil)
  (F:=fun k s=>FX170 k s.1.1) (fun k s r h=>(e170 (FX171 k) s).trans (b170 k s.1.1 r h)) k
theorem b194Forml0 (k:Nat) (x0:(List TQ)) (x7:Int) (x8:Int):LeO (GX194Forml0 (k+1) x0 x7 x8) (B194Forml0 (GX194Forml0 k) (FX170 k) x0 x7 x8):=by rw [GX194Forml0];exact LeO.refl _
theorem b194Form (k:Nat) (x0:(List TQ)):LeO (FX194Form k x0) (B194Form (GX194Forml0 k) x0):=LeO.refl _
theorem ok194Form (k:Nat):FeOk Tryz.prog (fe194Form (FX194Form k)):=
 fe_ok EOK HM (es:=fun k=>fes194Form (FX170 k)) (fun k=>fc ⟨ok170 k,fz⟩) (N:=19) (an:=an194Form) (c:=cd194Form) (rms:=rm194Form) (ask:=ask194Form) (rsk:=rsk194Form) (enc:=enc194Form) (dec:=dec194Form) (tbl:=[p194Form.getD 0 ⟨0,[], .skip⟩]) (fun s=>rfl) Tryz.func194 (by kernel_rfl) (by kernel_rfl) (by kernel_rfl) (fun k=>les194Form (GX194Forml0 k))
  (fc ⟨fun s=>rfl,fz⟩) (fun k s0=> .cons (by kernel_rfl) (by kernel_rfl) (fun s r h=>(e194Forml0 (GX194Forml0 k) (FX170 k) s0 s).trans (b194Forml0 k s.1.1 s.1.2.1 s.1.2.2.1 r h)) (.nil))
  (F:=fun k s=>FX194Form k s.1.1) (fun k s r h=>(e194Form (GX194Forml0 k) (FX170 k) s).trans (b194Form k s.1.1 r h)) k
theorem b153Form (k:Nat) (x0:(List TQ)):LeO (FX153Form k x0) (B153Form (FX194Form k) x0):=LeO.refl _
theorem ok153Form (k:Nat):FeOk Tryz.prog (fe153Form (FX153Form k)):=
 fe_ok EOK HM (es:=fun k=>fes153Form (FX194Form k)) (fun k=>fc ⟨ok194Form k,fz⟩) (N:=9) (an:=an153Form) (c:=cd153Form) (rms:=rm153Form) (ask:=ask153Form) (rsk:=rsk153Form) (enc:=enc153Form) (dec:=dec153Form) (tbl:=[]) (fun s=>rfl) Tryz.func153 (by kernel_rfl) (by kernel_rfl) (by kernel_rfl) (fun k=>les153Form)
  (fz) (fun k s0=> .nil)
  (F:=fun k s=>FX153Form k s.1.1) (fun k s r h=>(e153Form (FX194Form k) s).trans (b153Form k s.1.1 r h)) k
theorem b119 (k:Nat) (x0:(List TQ)):LeO (FX119 k x0) (B119 (FX89 k) (FX120 k) (FX153Form k) x0):=LeO.refl _
theorem ok119 (k:Nat):FeOk Tryz.prog (fe119 (FX119 k)):=
 fe_ok EOK HM (es:=fun k=>fes119 (FX89 k) (FX120 k) (FX153Form k)) (fun k=>fc ⟨ok89 k,fc ⟨ok120 k,fc ⟨ok153Form k,fz⟩⟩⟩) (N:=33) (an:=an119) (c:=cd119) (rms:=rm119) (ask:=ask119) (rsk:=rsk119) (enc:=enc119) (dec:=dec119) (tbl:=[]) (fun s=>rfl) Tryz.func119 (by kernel_rfl) (by kernel_rfl) (by kernel_rfl) (fun k=>les119)
  (fz) (fun k s0=> .nil)
  (F:=fun k s=>FX119 k s.1.1) (fun k s r h=>(e119 (FX89 k) (FX120 k) (FX153Form k) s).trans (b119 k s.1.1 r h)) k
theorem b124 (k:Nat) (x0:(List TQ)) (x1:(List TQ)):LeO (FX124 k x0 x1) (B124 (FX120 k) x0 x1):=LeO.refl _
theorem ok124 (k:Nat):FeOk Tryz.prog (fe124 (FX124 k)):=
 fe_ok EOK HM (es:=fun k=>fes124 (FX120 k)) (fun k=>fc ⟨ok120 k,fz⟩) (N:=17) (an:=an124) (c:=cd124) (rms:=rm124) (ask:=ask124) (rsk:=rsk124) (enc:=enc124) (dec:=dec124) (tbl:=[]) (fun s=>rfl) Tryz.func124 (by kernel_rfl) (by kernel_rfl) (by kernel_rfl) (fun k=>les124)
  (fz) (fun k s0=> .nil)
  (F:=fun k s=>FX124 k s.1.1 s.1.2.1) (fun k s r h=>(e124 (FX120 k) s).trans (b124 k s.1.1 s.1.2.1 r h)) k
theorem b138l0 (k:Nat) (x1:(List (List TQ))) (x11:(List (List TQ))) (x12:Int) (x13:Int) (x2:(List TQ)):LeO (GX138l0 (k+1) x1 x11 x12 x13 x2) (B138l0 (GX138l0 k) (FX124 k) x1 x11 x12 x13 x2):=by rw [GX138l0];exact LeO.refl _
theorem b138 (k:Nat) (x0:(List TQ)) (x1:(List (List TQ))):LeO (FX138 k x0 x1) (B138 (GX138l0 k) x0 x1):=LeO.refl _
theorem ok138 (k:Nat):FeOk Tryz.prog (fe138 (FX138 k)):=
 fe_ok EOK HM (es:=fun k=>fes138 (FX124 k)) (fun k=>fc ⟨ok124 k,fz⟩) (N:=37) (an:=an138) (c:=cd138) (rms:=rm138) (ask:=ask138) (rsk:=rsk138) (enc:=enc138) (dec:=dec138) (tbl:=[p138.getD 0 ⟨0,[], .skip⟩]) (fun s=>rfl) Tryz.func138 (by kernel_rfl) (by kernel_rfl) (by kernel_rfl) (fun k=>les138 (GX138l0 k))
  (fc ⟨fun s=>rfl,fz⟩) (fun k s0=> .cons (by kernel_rfl) (by kernel_rfl) (fun s r h=>(e138l0 (GX138l0 k) (FX124 k) s0 s).trans (b138l0 k s.1.1 s.1.2.1 s.1.2.2.1 s.1.2.2.2.1 s.2.1 r h)) (.nil))
  (F:=fun k s=>FX138 k s.1.1 s.1.2.1) (fun k s r h=>(e138 (GX138l0 k) (FX124 k) s).trans (b138 k s.1.1 s.1.2.1 r h)) k
theorem b83l0 (k:Nat) (x14:(List (List (List TQ)))) (x15:Int) (x16:Int) (x2:(List TQ)):LeO (GX83l0 (k+1) x14 x15 x16 x2) (B83l0 (GX83l0 k) (FX138 k) x14 x15 x16 x2):=by rw [GX83l0];exact LeO.refl _
theorem b83 (k:Nat) (x0:(List TQ)) (x1:(List (List (List TQ)))):LeO (FX83 k x0 x1) (B83 (GX83l0 k) (FX119 k) x0 x1):=LeO.refl _
theorem ok83 (k:Nat):FeOk Tryz.prog (fe83 (FX83 k)):=
 fe_ok EOK HM (es:=fun k=>fes83 (FX119 k) (FX138 k)) (fun k=>fc ⟨ok119 k,fc ⟨ok138 k,fz⟩⟩) (N:=27) (an:=an83) (c:=cd83) (rms:=rm83) (ask:=ask83) (rsk:=rsk83) (enc:=enc83) (dec:=dec83) (tbl:=[p83.getD 0 ⟨0,[], .skip⟩]) (fun s=>rfl) Tryz.func83 (by kernel_rfl) (by kernel_rfl) (by kernel_rfl) (fun k=>les83 (GX83l0 k))
  (fc ⟨fun s=>rfl,fz⟩) (fun k s0=> .cons (by kernel_rfl) (by kernel_rfl) (fun s r h=>(e83l0 (GX83l0 k) (FX119 k) (FX138 k) s0 s).trans (b83l0 k s.1.1 s.1.2.1 s.1.2.2.1 s.2.1 r h)) (.nil))
  (F:=fun k s=>FX83 k s.1.1 s.1.2.1) (fun k s r h=>(e83 (GX83l0 k) (FX119 k) (FX138 k) s).trans (b83 k s.1.1 s.1.2.1 r h)) k
theorem b224l0 (k:Nat) (x1:(List Int)) (x20:(List Int)) (x21:Int) (x22:Int) (x5:(List Int)):LeO (GX224l0 (k+1) x1 x20 x21 x22 x5) (B224l0 (GX224l1 k) (FX245 k) x1 x20 x21 x22 x5):=by rw [GX224l0];exact LeO.refl _
theorem b224l1 (k:Nat) (x1:(List Int)) (x6:Int) (x7:Int) (x8:Int) (x20:(List Int)) (x21:Int) (x22:Int) (x27:(List Int)) (x28:Int) (x29:Int) (x5:(List Int)):LeO (GX224l1 (k+1) x1 x6 x7 x8 x20 x21 x22 x27 x28 x29 x5) (B224l1 (GX224l0 k) (GX224l1 k) (FX246 k) (FX247 k) x1 x6 x7 x8 x20 x21 x22 x27 x28 x29 x5):=by rw [GX224l1];exact LeO.refl _
theorem b224 (k:Nat) (x0:(List Int)) (x1:(List Int)):LeO (FX224 k x0 x1) (B224 (GX224l0 k) x0 x1):=LeO.refl _
theorem ok224 (k:Nat):FeOk Tryz.prog (fe224 (FX224 k)):=
 fe_ok EOK HM (es:=fun k=>fes224 (FX245 k) (FX246 k) (FX247 k)) (fun k=>fc ⟨ok245 k,fc ⟨ok246 k,fc ⟨ok247 k,fz⟩⟩⟩) (N:=80) (an:=an224) (c:=cd224) (rms:=rm224) (ask:=ask224) (rsk:=rsk224) (enc:=enc224) (dec:=dec224) (tbl:=[p224.getD 0 ⟨0,[], .skip⟩,p224.getD 1 ⟨0,[], .skip⟩]) (fun s=>rfl) Tryz.func224 (by kernel_rfl) (by kernel_rfl) (by kernel_rfl) (fun k=>les224 (GX224l0 k) (GX224l1 k))
  (fc ⟨fun s=>rfl,fc ⟨fun s=>rfl,fz⟩⟩) (fun k s0=> .cons (by kernel_rfl) (by kernel_rfl) (fun s r h=>(e224l0 (GX224l0 k) (GX224l1 k) (FX245 k) (FX246 k) (FX247 k) s0 s).trans (b224l0 k s.1.1 s.1.2.1 s.1.2.2.1 s.1.2.2.2.1 s.2.1 r h)) (.cons (by kernel_rfl) (by kernel_rfl) (fun s r h=>(e224l1 (GX224l0 k) (GX224l1 k) (FX245 k) (FX246 k) (FX247 k) s0 s).trans (b224l1 k s.1.1 s.1.2.1 s.1.2.2.1 s.1.2.2.2.1 s.1.2.2.2.2.1 s.1.2.2.2.2.2.1 s.1.2.2.2.2.2.2.1 s.1.2.2.2.2.2.2.2.1 s.1.2.2.2.2.2.2.2.2.1 s.1.2.2.2.2.2.2.2.2.2.1 s.2.1 r h)) (.nil)))
  (F:=fun k s=>FX224 k s.1.1 s.1.2.1) (fun k s r h=>(e224 (GX224l0 k) (GX224l1 k) (FX245 k) (FX246 k) (FX247 k) s).trans (b224 k s.1.1 s.1.2.1 r h)) k
theorem b186 (k:Nat) (x0:ByteArray) (x1:ByteArray):LeO (FX186 k x0 x1) (B186 (FX223 k) (FX224 k) (FX225 k) x0 x1):=LeO.refl _
theorem ok186 (k:Nat):FeOk Tryz.prog (fe186 (FX186 k)):=
 fe_ok EOK HM (es:=fun k=>fes186 (FX223 k) (FX224 k) (FX225 k)) (fun k=>fc ⟨ok223 k,fc ⟨ok224 k,fc ⟨ok225 k,fz⟩⟩⟩) (N:=11) (an:=an186) (c:=cd186) (rms:=rm186) (ask:=ask186) (rsk:=rsk186) (enc:=enc186) (dec:=dec186) (tbl:=[]) (fun s=>rfl) Tryz.func186 (by kernel_rfl) (by kernel_rfl) (by kernel_rfl) (fun k=>les186)
  (fz) (fun k s0=> .nil)
  (F:=fun k s=>FX186 k s.1.1 s.1.2.1) (fun k s r h=>(e186 (FX223 k) (FX224 k) (FX225 k) s).trans (b186 k s.1.1 s.1.2.1 r h)) k
theorem b192 (k:Nat) (x0:Bool) (x1:ByteArray):LeO (FX192 k x0 x1) (B192 x0 x1):=LeO.refl _
theorem ok192 (k:Nat):FeOk Tryz.prog (fe192 (FX192 k)):=
 fe_ok EOK HM (es:=fun k=>fes192) (fun k=>fz) (N:=12) (an:=an192) (c:=cd192) (rms:=rm192) (ask:=ask192) (rsk:=rsk192) (enc:=enc192) (dec:=dec192) (tbl:=[]) (fun s=>rfl) Tryz.func192 (by kernel_rfl) (by kernel_rfl) (by kernel_rfl) (fun k=>les192)
  (fz) (fun k s0=> .nil)
  (F:=fun k s=>FX192 k s.1.1 s.1.2.1) (fun k s r h=>(e192 s).trans (b192 k s.1.1 s.1.2.1 r h)) k
theorem b184 (k:Nat) (x0:TI) (x1:TI):LeO (FX184 k x0 x1) (B184 (FX186 k) (FX192 k) x0 x1):=LeO.refl _
theorem ok184 (k:Nat):FeOk Tryz.prog (fe184 (FX184 k)):=
 fe_ok EOK HM (es:=fun k=>fes184 (FX186 k) (FX192 k)) (fun k=>fc ⟨ok186 k,fc ⟨ok192 k,fz⟩⟩) (N:=16) (an:=an184) (c:=cd184) (rms:=rm184) (ask:=ask184) (rsk:=rsk184) (enc:=enc184) (dec:=dec184) (tbl:=[]) (fun s=>rfl) Tryz.func184 (by kernel_rfl) (by kernel_rfl) (by kernel_rfl) (fun k=>les184)
  (fz) (fun k s0=> .nil)
  (F:=fun k s=>FX184 k s.1.1 s.1.2.1) (fun k s r h=>(e184 (FX186 k) (FX192 k) s).trans (b184 k s.1.1 s.1.2.1 r h)) k
theorem b222 (k:Nat) (x0:ByteArray) (x1:ByteArray):LeO (FX222 k x0 x1) (B222 (FX223 k) (FX225 k) (FX244 k) x0 x1):=LeO.refl _
theorem ok222 (k:Nat):FeOk Tryz.prog (fe222 (FX222 k)):=
 fe_ok EOK HM (es:=fun k=>fes222 (FX223 k) (FX225 k) (FX244 k)) (fun k=>fc ⟨ok223 k,fc ⟨ok225 k,fc ⟨ok244 k,fz⟩⟩⟩) (N:=20) (an:=an222) (c:=cd222) (rms:=rm222) (ask:=ask222) (rsk:=rsk222) (enc:=enc222) (dec:=dec222) (tbl:=[]) (fun s=>rfl) Tryz.func222 (by kernel_rfl) (by kernel_rfl) (by kernel_rfl) (fun k=>les222)
  (fz) (fun k s0=> .nil)
  (F:=fun k s=>FX222 k s.1.1 s.1.2.1) (fun k s r h=>(e222 (FX223 k) (FX225 k) (FX244 k) s).trans (b222 k s.1.1 s.1.2.1 r h)) k
theorem b185 (k:Nat) (x0:TI) (x1:TI):LeO (FX185 k x0 x1) (B185 (FX192 k) (FX215 k) (FX222 k) x0 x1):=LeO.refl _
theorem ok185 (k:Nat):FeOk Tryz.prog (fe185 (FX185 k)):=
 fe_ok EOK HM (es:=fun k=>fes185 (FX192 k) (FX215 k) (FX222 k)) (fun k=>fc ⟨ok192 k,fc ⟨ok215 k,fc ⟨ok222 k,fz⟩⟩⟩) (N:=40) (an:=an185) (c:=cd185) (rms:=rm185) (ask:=ask185) (rsk:=rsk185) (enc:=enc185) (dec:=dec185) (tbl:=[]) (fun s=>rfl) Tryz.func185 (by kernel_rfl) (by kernel_rfl) (by kernel_rfl) (fun k=>les185)
  (fz) (fun k s0=> .nil)
  (F:=fun k s=>FX185 k s.1.1 s.1.2.1) (fun k s r h=>(e185 (FX192 k) (FX215 k) (FX222 k) s).trans (b185 k s.1.1 s.1.2.1 r h)) k
theorem b142 (k:Nat) (x0:TQ) (x1:TQ):LeO (FX142 k x0 x1) (B142 (FX149 k) (FX184 k) (FX185 k) (FX186 k) x0 x1):=LeO.refl _
theorem ok142 (k:Nat):FeOk Tryz.prog (fe142 (FX142 k)):=
 fe_ok EOK HM (es:=fun k=>fes142 (FX149 k) (FX184 k) (FX185 k) (FX186 k)) (fun k=>fc ⟨ok149 k,fc ⟨ok184 k,fc ⟨ok185 k,fc ⟨ok186 k,fz⟩⟩⟩⟩) (N:=31) (an:=an142) (c:=cd142) (rms:=rm142) (ask:=ask142) (rsk:=rsk142) (enc:=enc142) (dec:=dec142) (tbl:=[]) (fun s=>rfl) Tryz.func142 (by kernel_rfl) (by kernel_rfl) (by kernel_rfl) (fun k=>les142)
  (fz) (fun k s0=> .nil)
  (F:=fun k s=>FX142 k s.1.1 s.1.2.1) (fun k s r h=>(e142 (FX149 k) (FX184 k) (FX185 k) (FX186 k) s).trans (b142 k s.1.1 s.1.2.1 r h)) k
theorem b188l0 (k:Nat) (x1:Int) (x5:(List Int)) (x6:(List Int)):LeO (GX188l0 (k+1) x1 x5 x6) (B188l0 (GX188l0 k) (FX223 k) (FX224 k) x1 x5 x6):=by rw [GX188l0];exact LeO.refl _
theorem b188 (k:Nat) (x0:ByteArray) (x1:Int):LeO (FX188 k x0 x1) (B188 (GX188l0 k) (FX225 k) x0 x1):=LeO.refl _
theorem ok188 (k:Nat):FeOk Tryz.prog (fe188 (FX188 k)):=
 fe_ok EOK HM (es:=fun k=>fes188 (FX223 k) (FX224 k) (FX225 k)) (fun k=>fc ⟨ok223 k,fc ⟨ok224 k,fc ⟨ok225 k,fz⟩⟩⟩) (N:=25) (an:=an188) (c:=cd188) (rms:=rm188) (ask:=ask188) (rsk:=rsk188) (enc:=enc188) (dec:=dec188) (tbl:=[p188.getD 0 ⟨0,[], .skip⟩]) (fun s=>rfl) Tryz.func188 (by kernel_rfl) (by kernel_rfl) (by kernel_rfl) (fun k=>les188 (GX188l0 k))
  (fc ⟨fun s=>rfl,fz⟩) (fun k s0=> .cons (by kernel_rfl) (by kernel_rfl) (fun s r h=>(e188l0 (GX188l0 k) (FX223 k) (FX224 k) (FX225 k) s0 s).trans (b188l0 k s.1.1 s.1.2.1 s.1.2.2.1 r h)) (.nil))
  (F:=fun k s=>FX188 k s.1.1 s.1.2.1) (fun k s r h=>(e188 (GX188l0 k) (FX223 k) (FX224 k) (FX225 k) s).trans (b188 k s.1.1 s.1.2.1 r h)) k
theorem b187 (k:Nat) (x0:TI) (x1:Int):LeO (FX187 k x0 x1) (B187 (FX188 k) (FX192 k) x0 x1):=LeO.refl _
theorem ok187 (k:Nat):FeOk Tryz.prog (fe187 (FX187 k)):=
 fe_ok EOK HM (es:=fun k=>fes187 (FX188 k) (FX192 k)) (fun k=>fc ⟨ok188 k,fc ⟨ok192 k,fz⟩⟩) (N:=17) (an:=an187) (c:=cd187) (rms:=rm187) (ask:=ask187) (rsk:=rsk187) (enc:=enc187) (dec:=dec187) (tbl:=[]) (fun s=>rfl) Tryz.func187 (by kernel_rfl) (by kernel_rfl) (by kernel_rfl) (fun k=>les187)
  (fz) (fun k s0=> .nil)
  (F:=fun k s=>FX187 k s.1.1 s.1.2.1) (fun k s r h=>(e187 (FX188 k) (FX192 k) s).trans (b187 k s.1.1 s.1.2.1 r h)) k
theorem b143 (k:Nat) (x0:TQ) (x1:Int):LeO (FX143 k x0 x1) (B143 (FX187 k) (FX188 k) x0 x1):=LeO.refl _
theorem ok143 (k:Nat):FeOk Tryz.prog (fe143 (FX143 k)):=
 fe_ok EOK HM (es:=fun k=>fes143 (FX187 k) (FX188 k)) (fun k=>fc ⟨ok187 k,fc ⟨ok188 k,fz⟩⟩) (N:=14) (an:=an143) (c:=cd143) (rms:=rm143) (ask:=ask143) (rsk:=rsk143) (enc:=enc143) (dec:=dec143) (tbl:=[]) (fun s=>rfl) Tryz.func143 (by kernel_rfl) (by kernel_rfl) (by kernel_rfl) (fun k=>les143)
  (fz) (fun k s0=> .nil)
  (F:=fun k s=>FX143 k s.1.1 s.1.2.1) (fun k s r h=>(e143 (FX187 k) (FX188 k) s).trans (b143 k s.1.1 s.1.2.1 r h)) k
theorem b190 (k:Nat) (x0:TI):LeO (FX190 k x0) (B190 (FX192 k) x0):=LeO.refl _
theorem ok190 (k:Nat):FeOk Tryz.prog (fe190 (FX190 k)):=
 fe_ok EOK HM (es:=fun k=>fes190 (FX192 k)) (fun k=>fc ⟨ok192 k,fz⟩) (N:=9) (an:=an190) (c:=cd190) (rms:=rm190) (ask:=ask190) (rsk:=rsk190) (enc:=enc190) (dec:=dec190) (tbl:=[]) (fun s=>rfl) Tryz.func190 (by kernel_rfl) (by kernel_rfl) (by kernel_rfl) (fun k=>les190)
  (fz) (fun k s0=> .nil)
  (F:=fun k s=>FX190 k s.1.1) (fun k s r h=>(e190 (FX192 k) s).trans (b190 k s.1.1 r h)) k
theorem b145 (k:Nat) (x0:TQ):LeO (FX145 k x0) (B145 (FX190 k) x0):=LeO.refl _
theorem ok145 (k:Nat):FeOk Tryz.prog (fe145 (FX145 k)):=
 fe_ok EOK HM (es:=fun k=>fes145 (FX190 k)) (fun k=>fc ⟨ok190 k,fz⟩) (N:=9) (an:=an145) (c:=cd145) (rms:=rm145) (ask:=ask145) (rsk:=rsk145) (enc:=enc145) (dec:=dec145) (tbl:=[]) (fun s=>rfl) Tryz.func145 (by kernel_rfl) (by kernel_rfl) (by kernel_rfl) (fun k=>les145)
  (fz) (fun k s0=> .nil)
  (F:=fun k s=>FX145 k s.1.1) (fun k s r h=>(e145 (FX190 k) s).trans (b145 k s.1.1 r h)) k
theorem b226l0 (k:Nat) (x8:Int) (x27:Int) (x28:Int) (x5:(List Int)) (x6:(List Int)) (x7:(List Int)):LeO (GX226l0 (k+1) x8 x27 x28 x5 x6 x7) (B226l0 (GX226l0 k) (FX223 k) (FX247 k) x8 x27 x28 x5 x6 x7):=by rw [GX226l0];exact LeO.refl _
theorem b226 (k:Nat) (x0:ByteArray) (x1:ByteArray):LeO (FX226 k x0 x1) (B226 (GX226l0 k) (FX225 k) x0 x1):=LeO.refl _
theorem ok226 (k:Nat):FeOk Tryz.prog (fe226 (FX226 k)):=
 fe_ok EOK HM (es:=fun k=>fes226 (FX223 k) (FX225 k) (FX247 k)) (fun k=>fc ⟨ok223 k,fc ⟨ok225 k,fc ⟨ok247 k,fz⟩⟩⟩) (N:=60) (an:=an226) (c:=cd226) (rms:=rm226) (ask:=ask226) (rsk:=rsk226) (enc:=enc226) (dec:=dec226) (tbl:=[p226.getD 0 ⟨0,[], .skip⟩]) (fun s=>rfl) Tryz.func226 (by kernel_rfl) (by kernel_rfl) (by kernel_rfl) (fun k=>les226 (GX226l0 k))
  (fc ⟨fun s=>rfl,fz⟩) (fun k s0=> .cons (by kernel_rfl) (by kernel_rfl) (fun s r h=>(e226l0 (GX226l0 k) (FX223 k) (FX225 k) (FX247 k) s0 s).trans (b226l0 k s.1.1 s.1.2.1 s.1.2.2.1 s.2.1 s.2.2.1 s.2.2.2.1 r h)) (.nil))
  (F:=fun k s=>FX226 k s.1.1 s.1.2.1) (fun k s r h=>(e226 (GX226l0 k) (FX223 k) (FX225 k) (FX247 k) s).trans (b226 k s.1.1 s.1.2.1 r h)) k
theorem b227 (k:Nat) (x0:ByteArray) (x1:ByteArray):LeO (FX227 k x0 x1) (B227 x0 x1):=LeO.refl _
theorem ok227 (k:Nat):FeOk Tryz.prog (fe227 (FX227 k)):=
 fe_ok EOK HM (es:=fun k=>fes227) (fun k=>fz) (N:=27) (an:=an227) (c:=cd227) (rms:=rm227) (ask:=ask227) (rsk:=rsk227) (enc:=enc227) (dec:=dec227) (tbl:=[]) (fun s=>rfl) Tryz.func227 (by kernel_rfl) (by kernel_rfl) (by kernel_rfl) (fun k=>les227)
  (fz) (fun k s0=> .nil)
  (F:=fun k s=>FX227 k s.1.1 s.1.2.1) (fun k s r h=>(e227 s).trans (b227 k s.1.1 s.1.2.1 r h)) k
theorem b228l0 (k:Nat) (x7:Int) (x15:Int) (x16:Int) (x5:(List Int)) (x6:(List Int)):LeO (GX228l0 (k+1) x7 x15 x16 x5 x6) (B228l0 (GX228l0 k) (FX223 k) (FX248 k) x7 x15 x16 x5 x6):=by rw [GX228l0];exact LeO.refl _
theorem b228 (k:Nat) (x0:ByteArray) (x1:ByteArray):LeO (FX228 k x0 x1) (B228 (GX228l0 k) (FX225 k) x0 x1):=LeO.refl _
theorem ok228 (k:Nat):FeOk Tryz.prog (fe228 (FX228 k)):=
 fe_ok EOK HM (es:=fun k=>fes228 (FX223 k) (FX225 k) (FX248 k)) (fun k=>fc ⟨ok223 k,fc ⟨ok225 k,fc ⟨ok248 k,fz⟩⟩⟩) (N:=43) (an:=an228) (c:=cd228) (rms:=rm228) (ask:=ask228) (rsk:=rsk228) (enc:=enc228) (dec:=dec228) (tbl:=[p228.getD 0 ⟨0,[], .skip⟩]) (fun s=>rfl) Tryz.func228 (by kernel_rfl) (by kernel_rfl) (by kernel_rfl) (fun k=>les228 (GX228l0 k))
  (fc ⟨fun s=>rfl,fz⟩) (fun k s0=> .cons (by kernel_rfl) (by kernel_rfl) (fun s r h=>(e228l0 (GX228l0 k) (FX223 k) (FX225 k) (FX248 k) s0 s).trans (b228l0 k s.1.1 s.1.2.1 s.1.2.2.1 s.2.1 s.2.2.1 r h)) (.nil))
  (F:=fun k s=>FX228 k s.1.1 s.1.2.1) (fun k s r h=>(e228 (GX228l0 k) (FX223 k) (FX225 k) (FX248 k) s).trans (b228 k s.1.1 s.1.2.1 r h)) k
theorem b191 (k:Nat) (x0:TI) (x1:TI):LeO (FX191 k x0 x1) (B191 (FX192 k) (FX226 k) (FX227 k) (FX228 k) x0 x1):=LeO.refl _
theorem ok191 (k:Nat):FeOk Tryz.prog (fe191 (FX191 k)):=
 fe_ok EOK HM (es:=fun k=>fes191 (FX192 k) (FX226 k) (FX227 k) (FX228 k)) (fun k=>fc ⟨ok192 k,fc ⟨ok226 k,fc ⟨ok227 k,fc ⟨ok228 k,fz⟩⟩⟩⟩) (N:=42) (an:=an191) (c:=cd191) (rms:=rm191) (ask:=ask191) (rsk:=rsk191) (enc:=enc191) (dec:=dec191) (tbl:=[]) (fun s=>rfl) Tryz.func191 (by kernel_rfl) (by kernel_rfl) (by kernel_rfl) (fun k=>les191)
  (fz) (fun k s0=> .nil)
  (F:=fun k s=>FX191 k s.1.1 s.1.2.1) (fun k s r h=>(e191 (FX192 k) (FX226 k) (FX227 k) (FX228 k) s).trans (b191 k s.1.1 s.1.2.1 r h)) k
theorem b148 (k:Nat) (x0:TQ) (x1:TQ):LeO (FX148 k x0 x1) (B148 (FX149 k) (FX185 k) (FX186 k) (FX191 k) (FX192 k) x0 x1):=LeO.refl _
theorem ok148 (k:Nat):FeOk Tryz.prog (fe148 (FX148 k)):=
 fe_ok EOK HM (es:=fun k=>fes148 (FX149 k) (FX185 k) (FX186 k) (FX191 k) (FX192 k)) (fun k=>fc ⟨ok149 k,fc ⟨ok185 k,fc ⟨ok186 k,fc ⟨ok191 k,fc ⟨ok192 k,fz⟩⟩⟩⟩⟩) (N:=58) (an:=an148) (c:=cd148) (rms:=rm148) (ask:=ask148) (rsk:=rsk148) (enc:=enc148) (dec:=dec148) (tbl:=[]) (fun s=>rfl) Tryz.func148 (by kernel_rfl) (by kernel_rfl) (by kernel_rfl) (fun k=>les148)
  (fz) (fun k s0=> .nil)
  (F:=fun k s=>FX148 k s.1.1 s.1.2.1) (fun k s r h=>(e148 (FX149 k) (FX185 k) (FX186 k) (FX191 k) (FX192 k) s).trans (b148 k s.1.1 s.1.2.1 r h)) k
theorem b88 (k:Nat) (x0:TQ) (x1:TQ):LeO (FX88 k x0 x1) (B88 (FX145 k) (FX148 k) x0 x1):=LeO.refl _
theorem ok88 (k:Nat):FeOk Tryz.prog (fe88 (FX88 k)):=
 fe_ok EOK HM (es:=fun k=>fes88 (FX145 k) (FX148 k)) (fun k=>fc ⟨ok145 k,fc ⟨ok148 k,fz⟩⟩) (N:=9) (an:=an88) (c:=cd88) (rms:=rm88) (ask:=ask88) (rsk:=rsk88) (enc:=enc88) (dec:=dec88) (tbl:=[]) (fun s=>rfl) Tryz.func88 (by kernel_rfl) (by kernel_rfl) (by kernel_rfl) (fun k=>les88)
  (fz) (fun k s0=> .nil)
  (F:=fun k s=>FX88 k s.1.1 s.1.2.1) (fun k s r h=>(e88 (FX145 k) (FX148 k) s).trans (b88 k s.1.1 s.1.2.1 r h)) k
theorem b92l0 (k:Nat) (x0:(List TQ)) (x3:Int):LeO (GX92l0 (k+1) x0 x3) (B92l0 (GX92l0 k) (FX152 k) x0 x3):=by rw [GX92l0];exact LeO.refl _
theorem b92 (k:Nat) (x0:(List TQ)):LeO (FX92 k x0) (B92 (GX92l0 k) x0):=LeO.refl _
theorem ok92 (k:Nat):FeOk Tryz.prog (fe92 (FX92 k)):=
 fe_ok EOK HM (es:=fun k=>fes92 (FX152 k)) (fun k=>fc ⟨ok152 k,fz⟩) (N:=22) (an:=an92) (c:=cd92) (rms:=rm92) (ask:=ask92) (rsk:=rsk92) (enc:=enc92) (dec:=dec92) (tbl:=[p92.getD 0 ⟨0,[], .skip⟩]) (fun s=>rfl) Tryz.func92 (by kernel_rfl) (by kernel_rfl) (by kernel_rfl) (fun k=>les92 (GX92l0 k))
  (fc ⟨fun s=>rfl,fz⟩) (fun k s0=> .cons (by kernel_rfl) (by kernel_rfl) (fun s r h=>(e92l0 (GX92l0 k) (FX152 k) s0 s).trans (b92l0 k s.1.1 s.1.2.1 r h)) (.nil))
  (F:=fun k s=>FX92 k s.1.1) (fun k s r h=>(e92 (GX92l0 k) (FX152 k) s).trans (b92 k s.1.1 r h)) k
theorem b147 (k:Nat) (x0:TQ):LeO (FX147 k x0) (B147 x0):=LeO.refl _
theorem ok147 (k:Nat):FeOk Tryz.prog (fe147 (FX147 k)):=
 fe_ok EOK HM (es:=fun k=>fes147) (fun k=>fz) (N:=13) (an:=an147) (c:=cd147) (rms:=rm147) (ask:=ask147) (rsk:=rsk147) (enc:=enc147) (dec:=dec147) (tbl:=[]) (fun s=>rfl) Tryz.func147 (by kernel_rfl) (by kernel_rfl) (by kernel_rfl) (fun k=>les147)
  (fz) (fun k s0=> .nil)
  (F:=fun k s=>FX147 k s.1.1) (fun k s r h=>(e147 s).trans (b147 k s.1.1 r h)) k
theorem b189n (k:Nat) (x0:(List TQ)):LeO (FX189n k x0) (B189n x0):=LeO.refl _
theorem ok189n (k:Nat):FeOk Tryz.prog (fe189n (FX189n k)):=
 fe_ok EOK HM (es:=fun k=>fes189n) (fun k=>fz) (N:=8) (an:=an189n) (c:=cd189n) (rms:=rm189n) (ask:=ask189n) (rsk:=rsk189n) (enc:=enc189n) (dec:=dec189n) (tbl:=[]) (fun s=>rfl) Tryz.func189 (by kernel_rfl) (by kernel_rfl) (by kernel_rfl) (fun k=>les189n)
  (fz) (fun k s0=> .nil)
  (F:=fun k s=>FX189n k s.1.1) (fun k s r h=>(e189n s).trans (b189n k s.1.1 r h)) k
theorem b189m (k:Nat) (x0:(List TQ)):LeO (FX189m k x0) (B189m x0):=LeO.refl _
theorem ok189m (k:Nat):FeOk Tryz.prog (fe189m (FX189m k)):=
 fe_ok EOK HM (es:=fun k=>fes189m) (fun k=>fz) (N:=8) (an:=an189m) (c:=cd189m) (rms:=rm189m) (ask:=ask189m) (rsk:=rsk189m) (enc:=enc189m) (dec:=dec189m) (tbl:=[]) (fun s=>rfl) Tryz.func189 (by kernel_rfl) (by kernel_rfl) (by kernel_rfl) (fun k=>les189m)
  (fz) (fun k s0=> .nil)
  (F:=fun k s=>FX189m k s.1.1) (fun k s r h=>(e189m s).trans (b189m k s.1.1 r h)) k
theorem ok189 (k:Nat):FeOk Tryz.prog (fe189 (FX189 k)):=fe_nil (ok189n k) (ok189m k) (fun s r h=>⟨h,fun hx=>by
 have e:B189m []=some []:=by kernel_rfl
 have h':B189m s.1.1=some r:=h
 rw [hx,e]at h'
 cases h'
 rfl⟩)
theorem b144l0 (k:Nat) (x0:(List TQ)) (x1:(List TQ)) (x7:Int) (x30:Int) (x31:Int) (x6:(List TQ)) (x8:(List TQ)):LeO (GX144l0 (k+1) x0 x1 x7 x30 x31 x6 x8) (B144l0 (GX144l0 k) (GX144l1 k) (FX89 k) (FX147 k) x0 x1 x7 x30 x31 x6 x8):=by rw [GX144l0];exact LeO.refl _
theorem b144l1 (k:Nat) (x1:(List TQ)) (x7:Int) (x11:Int) (x6:(List TQ)) (x8:(List TQ)) (x10:TQ):LeO (GX144l1 (k+1) x1 x7 x11 x6 x8 x10) (B144l1 (GX144l1 k) (GX144l2 k) (FX92 k) (FX142 k) (FX152 k) x1 x7 x11 x6 x8 x10):=by rw [GX144l1];exact LeO.refl _
theorem b144l2 (k:Nat) (x1:(List TQ)) (x7:Int) (x11:Int) (x69:Int) (x70:Int) (x6:(List TQ)) (x8:(List TQ)) (x10:TQ) (x12:TQ):LeO (GX144l2 (k+1) x1 x7 x11 x69 x70 x6 x8 x10 x12) (B144l2 (GX144l1 k) (GX144l2 k) (FX88 k) (FX142 k) x1 x7 x11 x69 x70 x6 x8 x10 x12):=by rw [GX144l2];exact LeO.refl _
theorem b144 (k:Nat) (x0:(List TQ)) (x1:(List TQ)):LeO (FX144 k x0 x1) (B144 (GX144l0 k) (FX189 k) x0 x1):=LeO.refl _
theorem ok144 (k:Nat):FeOk Tryz.prog (fe144 (FX144 k)):=
 fe_ok EOK HM (es:=fun k=>fes144 (FX88 k) (FX89 k) (FX92 k) (FX142 k) (FX147 k) (FX152 k) (FX189 k)) (fun k=>fc ⟨ok88 k,fc ⟨ok89 k,fc ⟨ok92 k,fc ⟨ok142 k,fc ⟨ok147 k,fc ⟨ok152 k,fc ⟨ok189 k,fz⟩⟩⟩⟩⟩⟩⟩) (N:=99) (an:=an144) (c:=cd144) (rms:=rm144) (ask:=ask144) (rsk:=rsk144) (enc:=enc144) (dec:=dec144) (tbl:=[p144.getD 0 ⟨0,[], .skip⟩,p144.getD 1 ⟨0,[], .skip⟩,p144.getD 2 ⟨0,[], .skip⟩]) (fun s=>rfl) Tryz.func144 (by kernel_rfl) (by kernel_rfl) (by kernel_rfl) (fun k=>les144 (GX144l0 k) (GX144l1 k) (GX144l2 k))
  (fc ⟨fun s=>rfl,fc ⟨fun s=>rfl,fc ⟨fun s=>rfl,fz⟩⟩⟩) (fun k s0=> .cons (by kernel_rfl) (by kernel_rfl) (fun s r h=>(e144l0 (GX144l0 k) (GX144l1 k) (GX144l2 k) (FX88 k) (FX89 k) (FX92 k) (FX142 k) (FX147 k) (FX152 k) (FX189 k) s0 s).trans (b144l0 k s.1.1 s.1.2.1 s.1.2.2.1 s.1.2.2.2.1 s.1.2.2.2.2.1 s.2.1 s.2.2.1 r h)) (.cons (by kernel_rfl) (by kernel_rfl) (fun s r h=>(e144l1 (GX144l0 k) (GX144l1 k) (GX144l2 k) (FX88 k) (FX89 k) (FX92 k) (FX142 k) (FX147 k) (FX152 k) (FX189 k) s0 s).trans (b144l1 k s.1.1 s.1.2.1 s.1.2.2.1 s.2.1 s.2.2.1 s.2.2.2.1 r h)) (.cons (by kernel_rfl) (by kernel_rfl) (fun s r h=>(e144l2 (GX144l0 k) (GX144l1 k) (GX144l2 k) (FX88 k) (FX89 k) (FX92 k) (FX142 k) (FX147 k) (FX152 k) (FX189 k) s0 s).trans (b144l2 k s.1.1 s.1.2.1 s.1.2.2.1 s.1.2.2.2.1 s.1.2.2.2.2.1 s.2.1 s.2.2.1 s.2.2.2.1 s.2.2.2.2.1 r h)) (.nil))))
  (F:=fun k s=>FX144 k s.1.1 s.1.2.1) (fun k s r h=>(e144 (GX144l0 k) (GX144l1 k) (GX144l2 k) (FX88 k) (FX89 k) (FX92 k) (FX142 k) (FX147 k) (FX152 k) (FX189 k) s).trans (b144 k s.1.1 s.1.2.1 r h)) k
theorem b84l0 (k:Nat) (x0:(List TQ)) (x1:(List TQ)) (x4:TQ) (x5:TQ):LeO (GX84l0 (k+1) x0 x1 x4 x5) (B84l0 (GX84l0 k) (FX89 k) (FX142 k) (FX143 k) (FX144 k) (FX145 k) x0 x1 x4 x5):=by rw [GX84l0];exact LeO.refl _
theorem b84 (k:Nat) (x0:(List TQ)) (x1:(List TQ)):LeO (FX84 k x0 x1) (B84 (GX84l0 k) (FX89 k) x0 x1):=LeO.refl _
theorem ok84 (k:Nat):FeOk Tryz.prog (fe84 (FX84 k)):=
 fe_ok EOK HM (es:=fun k=>fes84 (FX89 k) (FX142 k) (FX143 k) (FX144 k) (FX145 k)) (fun k=>fc ⟨ok89 k,fc ⟨ok142 k,fc ⟨ok143 k,fc ⟨ok144 k,fc ⟨ok145 k,fz⟩⟩⟩⟩⟩) (N:=70) (an:=an84) (c:=cd84) (rms:=rm84) (ask:=ask84) (rsk:=rsk84) (enc:=enc84) (dec:=dec84) (tbl:=[p84.getD 0 ⟨0,[], .skip⟩]) (fun s=>rfl) Tryz.func84 (by kernel_rfl) (by kernel_rfl) (by kernel_rfl) (fun k=>les84 (GX84l0 k))
  (fc ⟨fun s=>rfl,fz⟩) (fun k s0=> .cons (by kernel_rfl) (by kernel_rfl) (fun s r h=>(e84l0 (GX84l0 k) (FX89 k) (FX142 k) (FX143 k) (FX144 k) (FX145 k) s0 s).trans (b84l0 k s.1.1 s.1.2.1 s.2.1 s.2.2.1 r h)) (.nil))
  (F:=fun k s=>FX84 k s.1.1 s.1.2.1) (fun k s r h=>(e84 (GX84l0 k) (FX89 k) (FX142 k) (FX143 k) (FX144 k) (FX145 k) s).trans (b84 k s.1.1 s.1.2.1 r h)) k
theorem b151 (k:Nat) (x0:(List TQ)) (x1:Int):LeO (FX151 k x0 x1) (B151 (FX89 k) x0 x1):=LeO.refl _
theorem ok151 (k:Nat):FeOk Tryz.prog (fe151 (FX151 k)):=
 fe_ok EOK HM (es:=fun k=>fes151 (FX89 k)) (fun k=>fc ⟨ok89 k,fz⟩) (N:=18) (an:=an151) (c:=cd151) (rms:=rm151) (ask:=ask151) (rsk:=rsk151) (enc:=enc151) (dec:=dec151) (tbl:=[]) (fun s=>rfl) Tryz.func151 (by kernel_rfl) (by kernel_rfl) (by kernel_rfl) (fun k=>les151)
  (fz) (fun k s0=> .nil)
  (F:=fun k s=>FX151 k s.1.1 s.1.2.1) (fun k s r h=>(e151 (FX89 k) s).trans (b151 k s.1.1 s.1.2.1 r h)) k
theorem b90l0 (k:Nat) (x0:(List TQ)) (x1:(List TQ)) (x14:Int) (x15:Int) (x5:(List TQ)):LeO (GX90l0 (k+1) x0 x1 x14 x15 x5) (B90l0 (GX90l0 k) (FX92 k) (FX148 k) (FX151 k) x0 x1 x14 x15 x5):=by rw [GX90l0];exact LeO.refl _
theorem b90 (k:Nat) (x0:(List TQ)) (x1:(List TQ)):LeO (FX90 k x0 x1) (B90 (GX90l0 k) x0 x1):=LeO.refl _
theorem ok90 (k:Nat):FeOk Tryz.prog (fe90 (FX90 k)):=
 fe_ok EOK HM (es:=fun k=>fes90 (FX92 k) (FX148 k) (FX151 k)) (fun k=>fc ⟨ok92 k,fc ⟨ok148 k,fc ⟨ok151 k,fz⟩⟩⟩) (N:=31) (an:=an90) (c:=cd90) (rms:=rm90) (ask:=ask90) (rsk:=rsk90) (enc:=enc90) (dec:=dec90) (tbl:=[p90.getD 0 ⟨0,[], .skip⟩]) (fun s=>rfl) Tryz.func90 (by kernel_rfl) (by kernel_rfl) (by kernel_rfl) (fun k=>les90 (GX90l0 k))
  (fc ⟨fun s=>rfl,fz⟩) (fun k s0=> .cons (by kernel_rfl) (by kernel_rfl) (fun s r h=>(e90l0 (GX90l0 k) (FX92 k) (FX148 k) (FX151 k) s0 s).trans (b90l0 k s.1.1 s.1.2.1 s.1.2.2.1 s.1.2.2.2.1 s.2.1 r h)) (.nil))
  (F:=fun k s=>FX90 k s.1.1 s.1.2.1) (fun k s r h=>(e90 (GX90l0 k) (FX92 k) (FX148 k) (FX151 k) s).trans (b90 k s.1.1 s.1.2.1 r h)) k
theorem b91l0 (k:Nat) (x0:(List TQ)) (x1:(List TQ)) (x27:Int) (x28:Int) (x5:(List TQ)):LeO (GX91l0 (k+1) x0 x1 x27 x28 x5) (B91l0 (GX91l0 k) (GX91l1 k) (FX89 k) x0 x1 x27 x28 x5):=by rw [GX91l0];exact LeO.refl _
theorem b91l1 (k:Nat) (x1:(List TQ)) (x36:(List TQ)) (x37:Int) (x38:Int) (x5:(List TQ)):LeO (GX91l1 (k+1) x1 x36 x37 x38 x5) (B91l1 (GX91l1 k) (GX91l2 k) (FX92 k) (FX152 k) x1 x36 x37 x38 x5):=by rw [GX91l1];exact LeO.refl _
theorem b91l2 (k:Nat) (x1:(List TQ)) (x7:Int) (x36:(List TQ)) (x37:Int) (x38:Int) (x45:(List TQ)) (x46:Int) (x47:Int) (x5:(List TQ)) (x8:TQ):LeO (GX91l2 (k+1) x1 x7 x36 x37 x38 x45 x46 x47 x5 x8) (B91l2 (GX91l1 k) (GX91l2 k) (FX142 k) (FX148 k) x1 x7 x36 x37 x38 x45 x46 x47 x5 x8):=by rw [GX91l2];exact LeO.refl _
theorem b91 (k:Nat) (x0:(List TQ)) (x1:(List TQ)):LeO (FX91 k x0 x1) (B91 (GX91l0 k) x0 x1):=LeO.refl _
theorem ok91 (k:Nat):FeOk Tryz.prog (fe91 (FX91 k)):=
 fe_ok EOK HM (es:=fun k=>fes91 (FX89 k) (FX92 k) (FX142 k) (FX148 k) (FX152 k)) (fun k=>fc ⟨ok89 k,fc ⟨ok92 k,fc ⟨ok142 k,fc ⟨ok148 k,fc ⟨ok152 k,fz⟩⟩⟩⟩⟩) (N:=71) (an:=an91) (c:=cd91) (rms:=rm91) (ask:=ask91) (rsk:=rsk91) (enc:=enc91) (dec:=dec91) (tbl:=[p91.getD 0 ⟨0,[], .skip⟩,p91.getD 1 ⟨0,[], .skip⟩,p91.getD 2 ⟨0,[], .skip⟩]) (fun s=>rfl) Tryz.func91 (by kernel_rfl) (by kernel_rfl) (by kernel_rfl) (fun k=>les91 (GX91l0 k) (GX91l1 k) (GX91l2 k))
  (fc ⟨fun s=>rfl,fc ⟨fun s=>rfl,fc ⟨fun s=>rfl,fz⟩⟩⟩) (fun k s0=> .cons (by kernel_rfl) (by kernel_rfl) (fun s r h=>(e91l0 (GX91l0 k) (GX91l1 k) (GX91l2 k) (FX89 k) (FX92 k) (FX142 k) (FX148 k) (FX152 k) s0 s).trans (b91l0 k s.1.1 s.1.2.1 s.1.2.2.1 s.1.2.2.2.1 s.2.1 r h)) (.cons (by kernel_rfl) (by kernel_rfl) (fun s r h=>(e91l1 (GX91l0 k) (GX91l1 k) (GX91l2 k) (FX89 k) (FX92 k) (FX142 k) (FX148 k) (FX152 k) s0 s).trans (b91l1 k s.1.1 s.1.2.1 s.1.2.2.1 s.1.2.2.2.1 s.2.1 r h)) (.cons (by kernel_rfl) (by kernel_rfl) (fun s r h=>(e91l2 (GX91l0 k) (GX91l1 k) (GX91l2 k) (FX89 k) (FX92 k) (FX142 k) (FX148 k) (FX152 k) s0 s).trans (b91l2 k s.1.1 s.1.2.1 s.1.2.2.1 s.1.2.2.2.1 s.1.2.2.2.2.1 s.1.2.2.2.2.2.1 s.1.2.2.2.2.2.2.1 s.1.2.2.2.2.2.2.2.1 s.2.1 s.2.2.1 r h)) (.nil))))
  (F:=fun k s=>FX91 k s.1.1 s.1.2.1) (fun k s r h=>(e91 (GX91l0 k) (GX91l1 k) (GX91l2 k) (FX89 k) (FX92 k) (FX142 k) (FX148 k) (FX152 k) s).trans (b91 k s.1.1 s.1.2.1 r h)) k
theorem b165 (k:Nat) (x0:(List TQ)) (x1:(List TQ)):LeO (FX165 k x0 x1) (B165 (FX144 k) x0 x1):=LeO.refl _
theorem ok165 (k:Nat):FeOk Tryz.prog (fe165 (FX165 k)):=
 fe_ok EOK HM (es:=fun k=>fes165 (FX144 k)) (fun k=>fc ⟨ok144 k,fz⟩) (N:=14) (an:=an165) (c:=cd165) (rms:=rm165) (ask:=ask165) (rsk:=rsk165) (enc:=enc165) (dec:=dec165) (tbl:=[]) (fun s=>rfl) Tryz.func165 (by kernel_rfl) (by kernel_rfl) (by kernel_rfl) (fun k=>les165)
  (fz) (fun k s0=> .nil)
  (F:=fun k s=>FX165 k s.1.1 s.1.2.1) (fun k s r h=>(e165 (FX144 k) s).trans (b165 k s.1.1 s.1.2.1 r h)) k
theorem b146 (k:Nat) (x0:(List TQ)) (x1:(List TQ)) (x2:(List TQ)):LeO (FX146 k x0 x1 x2) (B146 (FX91 k) (FX165 k) x0 x1 x2):=LeO.refl _
theorem ok146 (k:Nat):FeOk Tryz.prog (fe146 (FX146 k)):=
 fe_ok EOK HM (es:=fun k=>fes146 (FX91 k) (FX165 k)) (fun k=>fc ⟨ok91 k,fc ⟨ok165 k,fz⟩⟩) (N:=12) (an:=an146) (c:=cd146) (rms:=rm146) (ask:=ask146) (rsk:=rsk146) (enc:=enc146) (dec:=dec146) (tbl:=[]) (fun s=>rfl) Tryz.func146 (by kernel_rfl) (by kernel_rfl) (by kernel_rfl) (fun k=>les146)
  (fz) (fun k s0=> .nil)
  (F:=fun k s=>FX146 k s.1.1 s.1.2.1 s.1.2.2.1) (fun k s r h=>(e146 (FX91 k) (FX165 k) s).trans (b146 k s.1.1 s.1.2.1 s.1.2.2.1 r h)) k
theorem b85l0 (k:Nat) (x1:(List (List TQ))) (x2:(List TQ)) (x7:(List TQ)) (x8:Int) (x3:(List TQ)):LeO (GX85l0 (k+1) x1 x2 x7 x8 x3) (B85l0 (GX85l0 k) (FX90 k) (FX146 k) x1 x2 x7 x8 x3):=by rw [GX85l0];exact LeO.refl _
theorem b85 (k:Nat) (x0:(List TQ)) (x1:(List (List TQ))) (x2:(List TQ)):LeO (FX85 k x0 x1 x2) (B85 (GX85l0 k) x0 x1 x2):=LeO.refl _
theorem ok85 (k:Nat):FeOk Tryz.prog (fe85 (FX85 k)):=
 fe_ok EOK HM (es:=fun k=>fes85 (FX90 k) (FX146 k)) (fun k=>fc ⟨ok90 k,fc ⟨ok146 k,fz⟩⟩) (N:=27) (an:=an85) (c:=cd85) (rms:=rm85) (ask:=ask85) (rsk:=rsk85) (enc:=enc85) (dec:=dec85) (tbl:=[p85.getD 0 ⟨0,[], .skip⟩]) (fun s=>rfl) Tryz.func85 (by kernel_rfl) (by kernel_rfl) (by kernel_rfl) (fun k=>les85 (GX85l0 k))
  (fc ⟨fun s=>rfl,fz⟩) (fun k s0=> .cons (by kernel_rfl) (by kernel_rfl) (fun s r h=>(e85l0 (GX85l0 k) (FX90 k) (FX146 k) s0 s).trans (b85l0 k s.1.1 s.1.2.1 s.1.2.2.1 s.1.2.2.2.1 s.2.1 r h)) (.nil))
  (F:=fun k s=>FX85 k s.1.1 s.1.2.1 s.1.2.2.1) (fun k s r h=>(e85 (GX85l0 k) (FX90 k) (FX146 k) s).trans (b85 k s.1.1 s.1.2.1 s.1.2.2.1 r h)) k
theorem b86l0 (k:Nat) (x9:(List Int)) (x10:Int) (x11:Int) (x3:(List TQ)):LeO (GX86l0 (k+1) x9 x10 x11 x3) (B86l0 (GX86l0 k) (FX89 k) (FX92 k) x9 x10 x11 x3):=by rw [GX86l0];exact LeO.refl _
theorem b86 (k:Nat) (x0:(List Int)):LeO (FX86 k x0) (B86 (GX86l0 k) x0):=LeO.refl _
theorem ok86 (k:Nat):FeOk Tryz.prog (fe86 (FX86 k)):=
 fe_ok EOK HM (es:=fun k=>fes86 (FX89 k) (FX92 k)) (fun k=>fc ⟨ok89 k,fc ⟨ok92 k,fz⟩⟩) (N:=24) (an:=an86) (c:=cd86) (rms:=rm86) (ask:=ask86) (rsk:=rsk86) (enc:=enc86) (dec:=dec86) (tbl:=[p86.getD 0 ⟨0,[], .skip⟩]) (fun s=>rfl) Tryz.func86 (by kernel_rfl) (by kernel_rfl) (by kernel_rfl) (fun k=>les86 (GX86l0 k))
  (fc ⟨fun s=>rfl,fz⟩) (fun k s0=> .cons (by kernel_rfl) (by kernel_rfl) (fun s r h=>(e86l0 (GX86l0 k) (FX89 k) (FX92 k) s0 s).trans (b86l0 k s.1.1 s.1.2.1 s.1.2.2.1 s.2.1 r h)) (.nil))
  (F:=fun k s=>FX86 k s.1.1) (fun k s r h=>(e86 (GX86l0 k) (FX89 k) (FX92 k) s).trans (b86 k s.1.1 r h)) k
theorem b87 (k:Nat) (x0:TQ) (x1:TQ):LeO (FX87 k x0 x1) (B87 (FX142 k) (FX147 k) x0 x1):=LeO.refl _
theorem ok87 (k:Nat):FeOk Tryz.prog (fe87 (FX87 k)):=
 fe_ok EOK HM (es:=fun k=>fes87 (FX142 k) (FX147 k)) (fun k=>fc ⟨ok142 k,fc ⟨ok147 k,fz⟩⟩) (N:=9) (an:=an87) (c:=cd87) (rms:=rm87) (ask:=ask87) (rsk:=rsk87) (enc:=enc87) (dec:=dec87) (tbl:=[]) (fun s=>rfl) Tryz.func87 (by kernel_rfl) (by kernel_rfl) (by kernel_rfl) (fun k=>les87)
  (fz) (fun k s0=> .nil)
  (F:=fun k s=>FX87 k s.1.1 s.1.2.1) (fun k s r h=>(e87 (FX142 k) (FX147 k) s).trans (b87 k s.1.1 s.1.2.1 r h)) k
theorem b154 (k:Nat) (x0:TQ):LeO (FX154 k x0) (B154 x0):=LeO.refl _
theorem ok154 (k:Nat):FeOk Tryz.prog (fe154 (FX154 k)):=
 fe_ok EOK HM (es:=fun k=>fes154) (fun k=>fz) (N:=14) (an:=an154) (c:=cd154) (rms:=rm154) (ask:=ask154) (rsk:=rsk154) (enc:=enc154) (dec:=dec154) (tbl:=[]) (fun s=>rfl) Tryz.func154 (by kernel_rfl) (by kernel_rfl) (by kernel_rfl) (fun k=>les154)
  (fz) (fun k s0=> .nil)
  (F:=fun k s=>FX154 k s.1.1) (fun k s r h=>(e154 s).trans (b154 k s.1.1 r h)) k
theorem b194Largel0 (k:Nat) (x0:(List TQ)) (x7:Int) (x8:Int):LeO (GX194Largel0 (k+1) x0 x7 x8) (B194Largel0 (GX194Largel0 k) (FX154 k) x0 x7 x8):=by rw [GX194Largel0];exact LeO.refl _
theorem b194Large (k:Nat) (x0:(List TQ)):LeO (FX194Large k x0) (B194Large (GX194Largel0 k) x0):=LeO.refl _
theorem ok194Large (k:Nat):FeOk Tryz.prog (fe194Large (FX194Large k)):=
 fe_ok EOK HM (es:=fun k=>fes194Large (FX154 k)) (fun k=>fc ⟨ok154 k,fz⟩) (N:=19) (an:=an194Large) (c:=cd194Large) (rms:=rm194Large) (ask:=ask194Large) (rsk:=rsk194Large) (enc:=enc194Large) (dec:=dec194Large) (tbl:=[p194Large.getD 0 ⟨0,[], .skip⟩]) (fun s=>rfl) Tryz.func194 (by kernel_rfl) (by kernel_rfl) (by kernel_rfl) (fun k=>les194Large (GX194Largel0 k))
  (fc ⟨fun s=>rfl,fz⟩) (fun k s0=> .cons (by kernel_rfl) (by kernel_rfl) (fun s r h=>(e194Largel0 (GX194Largel0 k) (FX154 k) s0 s).trans (b194Largel0 k s.1.1 s.1.2.1 s.1.2.2.1 r h)) (.nil))
  (F:=fun k s=>FX194Large k s.1.1) (fun k s r h=>(e194Large (GX194Largel0 k) (FX154 k) s).trans (b194Large k s.1.1 r h)) k
theorem b153Large (k:Nat) (x0:(List TQ)):LeO (FX153Large k x0) (B153Large (FX194Large k) x0):=LeO.refl _
theorem ok153Large (k:Nat):FeOk Tryz.prog (fe153Large (FX153Large k)):=
 fe_ok EOK HM (es:=fun k=>fes153Large (FX194Large k)) (fun k=>fc ⟨ok194Large k,fz⟩) (N:=9) (an:=an153Large) (c:=cd153Large) (rms:=rm153Large) (ask:=ask153Large) (rsk:=rsk153Large) (enc:=enc153Large) (dec:=dec153Large) (tbl:=[]) (fun s=>rfl) Tryz.func153 (by kernel_rfl) (by kernel_rfl) (by kernel_rfl) (fun k=>les153Large)
  (fz) (fun k s0=> .nil)
  (F:=fun k s=>FX153Large k s.1.1) (fun k s r h=>(e153Large (FX194Large k) s).trans (b153Large k s.1.1 r h)) k
theorem b93 (k:Nat) (x0:(List TQ)):LeO (FX93 k x0) (B93 (FX153Large k) x0):=LeO.refl _
theorem ok93 (k:Nat):FeOk Tryz.prog (fe93 (FX93 k)):=
 fe_ok EOK HM (es:=fun k=>fes93 (FX153Large k)) (fun k=>fc ⟨ok153Large k,fz⟩) (N:=10) (an:=an93) (c:=cd93) (rms:=rm93) (ask:=ask93) (rsk:=rsk93) (enc:=enc93) (dec:=dec93) (tbl:=[]) (fun s=>rfl) Tryz.func93 (by kernel_rfl) (by kernel_rfl) (by kernel_rfl) (fun k=>les93)
  (fz) (fun k s0=> .nil)
  (F:=fun k s=>FX93 k s.1.1) (fun k s r h=>(e93 (FX153Large k) s).trans (b93 k s.1.1 r h)) k
theorem b17l0 (k:Nat) (x1:(List (List TQ))) (x7:Int) (x38:Int) (x39:Int) (x2:(List TQ)) (x8:(List TQ)):LeO (GX17l0 (k+1) x1 x7 x38 x39 x2 x8) (B17l0 (GX17l0 k) (GX17l1 k) (FX84 k) (FX85 k) (FX86 k) x1 x7 x38 x39 x2 x8):=by rw [GX17l0];exact LeO.refl _
theorem b17l1 (k:Nat) (x7:Int) (x10:Int) (x8:(List TQ)):LeO (GX17l1 (k+1) x7 x10 x8) (B17l1 (GX17l2 k) (GX17l3 k) x7 x10 x8):=by rw [GX17l1];exact LeO.refl _
theorem b17l2 (k:Nat) (x7:Int) (x10:Int) (x11:Int) (x8:(List TQ)):LeO (GX17l2 (k+1) x7 x10 x11 x8) (B17l2 (GX17l1 k) (GX17l2 k) (FX87 k) (FX88 k) (FX89 k) x7 x10 x11 x8):=by rw [GX17l2];exact LeO.refl _
theorem b17l3 (k:Nat) (x12:(List TQ)) (x13:Int) (x8:(List TQ)):LeO (GX17l3 (k+1) x12 x13 x8) (B17l3 (GX17l3 k) (FX86 k) (FX90 k) (FX91 k) (FX92 k) (FX93 k) x12 x13 x8):=by rw [GX17l3];exact LeO.refl _
theorem b17 (k:Nat) (x0:(List TQ)) (x1:(List (List TQ))):LeO (FX17 k x0 x1) (B17 (GX17l0 k) (FX83 k) x0 x1):=LeO.refl _
theorem ok17 (k:Nat):FeOk Tryz.prog (fe17 (FX17 k)):=
 fe_ok EOK HM (es:=fun k=>fes17 (FX83 k) (FX84 k) (FX85 k) (FX86 k) (FX87 k) (FX88 k) (FX89 k) (FX90 k) (FX91 k) (FX92 k) (FX93 k)) (fun k=>fc ⟨ok83 k,fc ⟨ok84 k,fc ⟨ok85 k,fc ⟨ok86 k,fc ⟨ok87 k,fc ⟨ok88 k,fc ⟨ok89 k,fc ⟨ok90 k,fc ⟨ok91 k,fc ⟨ok92 k,fc ⟨ok93 k,fz⟩⟩⟩⟩⟩⟩⟩⟩⟩⟩⟩) (N:=103) (an:=an17) (c:=cd17) (rms:=rm17) (ask:=ask17) (rsk:=rsk17) (enc:=enc17) (dec:=dec17) (tbl:=[p17.getD 0 ⟨0,[], .skip⟩,p17.getD 1 ⟨0,[], .skip⟩,p17.getD 2 ⟨0,[], .skip⟩,p17.getD 3 ⟨0,[], .skip⟩]) (fun s=>rfl) Tryz.func17 (by kernel_rfl) (by kernel_rfl) (by kernel_rfl) (fun k=>les17 (GX17l0 k) (GX17l1 k) (GX17l2 k) (GX17l3 k))
  (fc ⟨fun s=>rfl,fc ⟨fun s=>rfl,fc ⟨fun s=>rfl,fc ⟨fun s=>rfl,fz⟩⟩⟩⟩) (fun k s0=> .cons (by kernel_rfl) (by kernel_rfl) (fun s r h=>(e17l0 (GX17l0 k) (GX17l1 k) (GX17l2 k) (GX17l3 k) (FX83 k) (FX84 k) (FX85 k) (FX86 k) (FX87 k) (FX88 k) (FX89 k) (FX90 k) (FX91 k) (FX92 k) (FX93 k) s0 s).trans (b17l0 k s.1.1 s.1.2.1 s.1.2.2.1 s.1.2.2.2.1 s.2.1 s.2.2.1 r h)) (.cons (by kernel_rfl) (by kernel_rfl) (fun s r h=>(e17l1 (GX17l0 k) (GX17l1 k) (GX17l2 k) (GX17l3 k) (FX83 k) (FX84 k) (FX85 k) (FX86 k) (FX87 k) (FX88 k) (FX89 k) (FX90 k) (FX91 k) (FX92 k) (FX93 k) s0 s).trans (b17l1 k s.1.1 s.1.2.1 s.2.1 r h)) (.cons (by kernel_rfl) (by kernel_rfl) (fun s r h=>(e17l2 (GX17l0 k) (GX17l1 k) (GX17l2 k) (GX17l3 k) (FX83 k) (FX84 k) (FX85 k) (FX86 k) (FX87 k) (FX88 k) (FX89 k) (FX90 k) (FX91 k) (FX92 k) (FX93 k) s0 s).trans (b17l2 k s.1.1 s.1.2.1 s.1.2.2.1 s.2.1 r h)) (.cons (by kernel_rfl) (by kernel_rfl) (fun s r h=>(e17l3 (GX17l0 k) (GX17l1 k) (GX17l2 k) (GX17l3 k) (FX83 k) (FX84 k) (FX85 k) (FX86 k) (FX87 k) (FX88 k) (FX89 k) (FX90 k) (FX91 k) (FX92 k) (FX93 k) s0 s).trans (b17l3 k s.1.1 s.1.2.1 s.2.1 r h)) (.nil)))))
  (F:=fun k s=>FX17 k s.1.1 s.1.2.1) (fun k s r h=>(e17 (GX17l0 k) (GX17l1 k) (GX17l2 k) (GX17l3 k) (FX83 k) (FX84 k) (FX85 k) (FX86 k) (FX87 k) (FX88 k) (FX89 k) (FX90 k) (FX91 k) (FX92 k) (FX93 k) s).trans (b17 k s.1.1 s.1.2.1 r h)) k
theorem b18l0 (k:Nat) (x0:(List TQ)) (x1:(List TQ)) (x12:Int) (x13:Int):LeO (GX18l0 (k+1) x0 x1 x12 x13) (B18l0 (GX18l0 k) x0 x1 x12 x13):=by rw [GX18l0];exact LeO.refl _
theorem b18 (k:Nat) (x0:(List TQ)) (x1:(List TQ)):LeO (FX18 k x0 x1) (B18 (GX18l0 k) x0 x1):=LeO.refl _
theorem ok18 (k:Nat):FeOk Tryz.prog (fe18 (FX18 k)):=
 fe_ok EOK HM (es:=fun k=>fes18) (fun k=>fz) (N:=26) (an:=an18) (c:=cd18) (rms:=rm18) (ask:=ask18) (rsk:=rsk18) (enc:=enc18) (dec:=dec18) (tbl:=[p18.getD 0 ⟨0,[], .skip⟩]) (fun s=>rfl) Tryz.func18 (by kernel_rfl) (by kernel_rfl) (by kernel_rfl) (fun k=>les18 (GX18l0 k))
  (fc ⟨fun s=>rfl,fz⟩) (fun k s0=> .cons (by kernel_rfl) (by kernel_rfl) (fun s r h=>(e18l0 (GX18l0 k) s0 s).trans (b18l0 k s.1.1 s.1.2.1 s.1.2.2.1 s.1.2.2.2.1 r h)) (.nil))
  (F:=fun k s=>FX18 k s.1.1 s.1.2.1) (fun k s r h=>(e18 (GX18l0 k) s).trans (b18 k s.1.1 s.1.2.1 r h)) k
theorem b173 (k:Nat) (x0:TI):LeO (FX173 k x0) (B173 x0):=LeO.refl _
theorem ok173 (k:Nat):FeOk Tryz.prog (fe173 (FX173 k)):=
 fe_ok EOK HM (es:=fun k=>fes173) (fun k=>fz) (N:=10) (an:=an173) (c:=cd173) (rms:=rm173) (ask:=ask173) (rsk:=rsk173) (enc:=enc173) (dec:=dec173) (tbl:=[]) (fun s=>rfl) Tryz.func173 (by kernel_rfl) (by kernel_rfl) (by kernel_rfl) (fun k=>les173)
  (fz) (fun k s0=> .nil)
  (F:=fun k s=>FX173 k s.1.1) (fun k s r h=>(e173 s).trans (b173 k s.1.1 r h)) k
theorem b123 (k:Nat) (x0:TQ):LeO (FX123 k x0) (B123 (FX173 k) x0):=LeO.refl _
theorem ok123 (k:Nat):FeOk Tryz.prog (fe123 (FX123 k)):=
 fe_ok EOK HM (es:=fun k=>fes123 (FX173 k)) (fun k=>fc ⟨ok173 k,fz⟩) (N:=6) (an:=an123) (c:=cd123) (rms:=rm123) (ask:=ask123) (rsk:=rsk123) (enc:=enc123) (dec:=dec123) (tbl:=[]) (fun s=>rfl) Tryz.func123 (by kernel_rfl) (by kernel_rfl) (by kernel_rfl) (fun k=>les123)
  (fz) (fun k s0=> .nil)
  (F:=fun k s=>FX123 k s.1.1) (fun k s r h=>(e123 (FX173 k) s).trans (b123 k s.1.1 r h)) k
theorem b48l0 (k:Nat) (x0:(List TQ)) (x3:Int):LeO (GX48l0 (k+1) x0 x3) (B48l0 (GX48l0 k) (FX123 k) x0 x3):=by rw [GX48l0];exact LeO.refl _
theorem b48 (k:Nat) (x0:(List TQ)):LeO (FX48 k x0) (B48 (GX48l0 k) x0):=LeO.refl _
theorem ok48 (k:Nat):FeOk Tryz.prog (fe48 (FX48 k)):=
 fe_ok EOK HM (es:=fun k=>fes48 (FX123 k)) (fun k=>fc ⟨ok123 k,fz⟩) (N:=24) (an:=an48) (c:=cd48) (rms:=rm48) (ask:=ask48) (rsk:=rsk48) (enc:=enc48) (dec:=dec48) (tbl:=[p48.getD 0 ⟨0,[], .skip⟩]) (fun s=>rfl) Tryz.func48 (by kernel_rfl) (by kernel_rfl) (by kernel_rfl) (fun k=>les48 (GX48l0 k))
  (fc ⟨fun s=>rfl,fz⟩) (fun k s0=> .cons (by kernel_rfl) (by kernel_rfl) (fun s r h=>(e48l0 (GX48l0 k) (FX123 k) s0 s).trans (b48l0 k s.1.1 s.1.2.1 r h)) (.nil))
  (F:=fun k s=>FX48 k s.1.1) (fun k s r h=>(e48 (GX48l0 k) (FX123 k) s).trans (b48 k s.1.1 r h)) k
theorem b221l0 (k:Nat) (x0:(List Int)) (x4:Int) (x3:(List Int)):LeO (GX221l0 (k+1) x0 x4 x3) (B221l0 (GX221l1 k) x0 x4 x3):=by rw [GX221l0];exact LeO.refl _
theorem b221l1 (k:Nat) (x0:(List Int)) (x4:Int) (x5:Int) (x3:(List Int)):LeO (GX221l1 (k+1) x0 x4 x5 x3) (B221l1 (GX221l0 k) (GX221l1 k) x0 x4 x5 x3):=by rw [GX221l1];exact LeO.refl _
theorem b221 (k:Nat) (x0:(List Int)):LeO (FX221 k x0) (B221 (GX221l0 k) x0):=LeO.refl _
theorem ok221 (k:Nat):FeOk Tryz.prog (fe221 (FX221 k)):=
 fe_ok EOK HM (es:=fun k=>fes221) (fun k=>fz) (N:=38) (an:=an221) (c:=cd221) (rms:=rm221) (ask:=ask221) (rsk:=rsk221) (enc:=enc221) (dec:=dec221) (tbl:=[p221.getD 0 ⟨0,[], .skip⟩,p221.getD 1 ⟨0,[], .skip⟩]) (fun s=>rfl) Tryz.func221 (by kernel_rfl) (by kernel_rfl) (by kernel_rfl) (fun k=>les221 (GX221l0 k) (GX221l1 k))
  (fc ⟨fun s=>rfl,fc ⟨fun s=>rfl,fz⟩⟩) (fun k s0=> .cons (by kernel_rfl) (by kernel_rfl) (fun s r h=>(e221l0 (GX221l0 k) (GX221l1 k) s0 s).trans (b221l0 k s.1.1 s.1.2.1 s.2.1 r h)) (.cons (by kernel_rfl) (by kernel_rfl) (fun s r h=>(e221l1 (GX221l0 k) (GX221l1 k) s0 s).trans (b221l1 k s.1.1 s.1.2.1 s.1.2.2.1 s.2.1 r h)) (.nil)))
  (F:=fun k s=>FX221 k s.1.1) (fun k s r h=>(e221 (GX221l0 k) (GX221l1 k) s).trans (b221 k s.1.1 r h)) k
theorem b183 (k:Nat) (x0:Int):LeO (FX183 k x0) (B183 (FX221 k) x0):=LeO.refl _
theorem ok183 (k:Nat):FeOk Tryz.prog (fe183 (FX183 k)):=
 fe_ok EOK HM (es:=fun k=>fes183 (FX221 k)) (fun k=>fc ⟨ok221 k,fz⟩) (N:=9) (an:=an183) (c:=cd183) (rms:=rm183) (ask:=ask183) (rsk:=rsk183) (enc:=enc183) (dec:=dec183) (tbl:=[]) (fun s=>rfl) Tryz.func183 (by kernel_rfl) (by kernel_rfl) (by kernel_rfl) (fun k=>les183)
  (fz) (fun k s0=> .nil)
  (F:=fun k s=>FX183 k s.1.1) (fun k s r h=>(e183 (FX221 k) s).trans (b183 k s.1.1 r h)) k
theorem b141 (k:Nat) (x0:Int):LeO (FX141 k x0) (B141 (FX183 k) x0):=LeO.refl _
theorem ok141 (k:Nat):FeOk Tryz.prog (fe141 (FX141 k)):=
 fe_ok EOK HM (es:=fun k=>fes141 (FX183 k)) (fun k=>fc ⟨ok183 k,fz⟩) (N:=16) (an:=an141) (c:=cd141) (rms:=rm141) (ask:=ask141) (rsk:=rsk141) (enc:=enc141) (dec:=dec141) (tbl:=[]) (fun s=>rfl) Tryz.func141 (by kernel_rfl) (by kernel_rfl) (by kernel_rfl) (fun k=>les141)
  (fz) (fun k s0=> .nil)
  (F:=fun k s=>FX141 k s.1.1) (fun k s r h=>(e141 (FX183 k) s).trans (b141 k s.1.1 r h)) k
theorem b81 (k:Nat) (x0:Int):LeO (FX81 k x0) (B81 (FX141 k) x0):=LeO.refl _
theorem ok81 (k:Nat):FeOk Tryz.prog (fe81 (FX81 k)):=
 fe_ok EOK HM (es:=fun k=>fes81 (FX141 k)) (fun k=>fc ⟨ok141 k,fz⟩) (N:=6) (an:=an81) (c:=cd81) (rms:=rm81) (ask:=ask81) (rsk:=rsk81) (enc:=enc81) (dec:=dec81) (tbl:=[]) (fun s=>rfl) Tryz.func81 (by kernel_rfl) (by kernel_rfl) (by kernel_rfl) (fun k=>les81)
  (fz) (fun k s0=> .nil)
  (F:=fun k s=>FX81 k s.1.1) (fun k s r h=>(e81 (FX141 k) s).trans (b81 k s.1.1 r h)) k
theorem b22l0 (k:Nat) (x6:(List Int)) (x7:Int) (x8:Int) (x3:(List TQ)):LeO (GX22l0 (k+1) x6 x7 x8 x3) (B22l0 (GX22l0 k) (FX48 k) (FX81 k) x6 x7 x8 x3):=by rw [GX22l0];exact LeO.refl _
theorem b22 (k:Nat) (x0:(List Int)):LeO (FX22 k x0) (B22 (GX22l0 k) x0):=LeO.refl _
theorem ok22 (k:Nat):FeOk Tryz.prog (fe22 (FX22 k)):=
 fe_ok EOK HM (es:=fun k=>fes22 (FX48 k) (FX81 k)) (fun k=>fc ⟨ok48 k,fc ⟨ok81 k,fz⟩⟩) (N:=20) (an:=an22) (c:=cd22) (rms:=rm22) (ask:=ask22) (rsk:=rsk22) (enc:=enc22) (dec:=dec22) (tbl:=[p22.getD 0 ⟨0,[], .skip⟩]) (fun s=>rfl) Tryz.func22 (by kernel_rfl) (by kernel_rfl) (by kernel_rfl) (fun k=>les22 (GX22l0 k))
  (fc ⟨fun s=>rfl,fz⟩) (fun k s0=> .cons (by kernel_rfl) (by kernel_rfl) (fun s r h=>(e22l0 (GX22l0 k) (FX48 k) (FX81 k) s0 s).trans (b22l0 k s.1.1 s.1.2.1 s.1.2.2.1 s.2.1 r h)) (.nil))
  (F:=fun k s=>FX22 k s.1.1) (fun k s r h=>(e22 (GX22l0 k) (FX48 k) (FX81 k) s).trans (b22 k s.1.1 r h)) k
theorem b137l0 (k:Nat) (x11:(List TQ)) (x12:Int) (x13:Int) (x3:TQ) (x5:(List TQ)):LeO (GX137l0 (k+1) x11 x12 x13 x3 x5) (B137l0 (GX137l0 k) (FX92 k) (FX142 k) x11 x12 x13 x3 x5):=by rw [GX137l0];exact LeO.refl _
theorem b137 (k:Nat) (x0:(List TQ)) (x1:TQ):LeO (FX137 k x0 x1) (B137 (GX137l0 k) x0 x1):=LeO.refl _
theorem ok137 (k:Nat):FeOk Tryz.prog (fe137 (FX137 k)):=
 fe_ok EOK HM (es:=fun k=>fes137 (FX92 k) (FX142 k)) (fun k=>fc ⟨ok92 k,fc ⟨ok142 k,fz⟩⟩) (N:=27) (an:=an137) (c:=cd137) (rms:=rm137) (ask:=ask137) (rsk:=rsk137) (enc:=enc137) (dec:=dec137) (tbl:=[p137.getD 0 ⟨0,[], .skip⟩]) (fun s=>rfl) Tryz.func137 (by kernel_rfl) (by kernel_rfl) (by kernel_rfl) (fun k=>les137 (GX137l0 k))
  (fc ⟨fun s=>rfl,fz⟩) (fun k s0=> .cons (by kernel_rfl) (by kernel_rfl) (fun s r h=>(e137l0 (GX137l0 k) (FX92 k) (FX142 k) s0 s).trans (b137l0 k s.1.1 s.1.2.1 s.1.2.2.1 s.2.1 s.2.2.1 r h)) (.nil))
  (F:=fun k s=>FX137 k s.1.1 s.1.2.1) (fun k s r h=>(e137 (GX137l0 k) (FX92 k) (FX142 k) s).trans (b137 k s.1.1 s.1.2.1 r h)) k
theorem b166l0 (k:Nat) (x0:(List TQ)) (x1:(List TQ)) (x14:Int) (x15:Int) (x5:(List TQ)):LeO (GX166l0 (k+1) x0 x1 x14 x15 x5) (B166l0 (GX166l0 k) (FX88 k) (FX92 k) (FX151 k) x0 x1 x14 x15 x5):=by rw [GX166l0];exact LeO.refl _
theorem b166 (k:Nat) (x0:(List TQ)) (x1:(List TQ)):LeO (FX166 k x0 x1) (B166 (GX166l0 k) x0 x1):=LeO.refl _
theorem ok166 (k:Nat):FeOk Tryz.prog (fe166 (FX166 k)):=
 fe_ok EOK HM (es:=fun k=>fes166 (FX88 k) (FX92 k) (FX151 k)) (fun k=>fc ⟨ok88 k,fc ⟨ok92 k,fc ⟨ok151 k,fz⟩⟩⟩) (N:=31) (an:=an166) (c:=cd166) (rms:=rm166) (ask:=ask166) (rsk:=rsk166) (enc:=enc166) (dec:=dec166) (tbl:=[p166.getD 0 ⟨0,[], .skip⟩]) (fun s=>rfl) Tryz.func166 (by kernel_rfl) (by kernel_rfl) (by kernel_rfl) (fun k=>les166 (GX166l0 k))
  (fc ⟨fun s=>rfl,fz⟩) (fun k s0=> .cons (by kernel_rfl) (by kernel_rfl) (fun s r h=>(e166l0 (GX166l0 k) (FX88 k) (FX92 k) (FX151 k) s0 s).trans (b166l0 k s.1.1 s.1.2.1 s.1.2.2.1 s.1.2.2.2.1 s.2.1 r h)) (.nil))
  (F:=fun k s=>FX166 k s.1.1 s.1.2.1) (fun k s r h=>(e166 (GX166l0 k) (FX88 k) (FX92 k) (FX151 k) s).trans (b166 k s.1.1 s.1.2.1 r h)) k
theorem b106l0 (k:Nat) (x0:(List TQ)) (x6:(List TQ)) (x7:(List TQ)) (x8:(List TQ)) (x9:(List TQ)):LeO (GX106l0 (k+1) x0 x6 x7 x8 x9) (B106l0 (GX106l0 k) (FX91 k) (FX137 k) (FX144 k) (FX147 k) (FX165 k) (FX166 k) x0 x6 x7 x8 x9):=by rw [GX106l0];exact LeO.refl _
theorem b106 (k:Nat) (x0:(List TQ)) (x1:(List TQ)):LeO (FX106 k x0 x1) (B106 (GX106l0 k) (FX86 k) (FX165 k) x0 x1):=LeO.refl _
theorem ok106 (k:Nat):FeOk Tryz.prog (fe106 (FX106 k)):=
 fe_ok EOK HM (es:=fun k=>fes106 (FX86 k) (FX91 k) (FX137 k) (FX144 k) (FX147 k) (FX165 k) (FX166 k)) (fun k=>fc ⟨ok86 k,fc ⟨ok91 k,fc ⟨ok137 k,fc ⟨ok144 k,fc ⟨ok147 k,fc ⟨ok165 k,fc ⟨ok166 k,fz⟩⟩⟩⟩⟩⟩⟩) (N:=46) (an:=an106) (c:=cd106) (rms:=rm106) (ask:=ask106) (rsk:=rsk106) (enc:=enc106) (dec:=dec106) (tbl:=[p106.getD 0 ⟨0,[], .skip⟩]) (fun s=>rfl) Tryz.func106 (by kernel_rfl) (by kernel_rfl) (by kernel_rfl) (fun k=>les106 (GX106l0 k))
  (fc ⟨fun s=>rfl,fz⟩) (fun k s0=> .cons (by kernel_rfl) (by kernel_rfl) (fun s r h=>(e106l0 (GX106l0 k) (FX86 k) (FX91 k) (FX137 k) (FX144 k) (FX147 k) (FX165 k) (FX166 k) s0 s).trans (b106l0 k s.1.1 s.1.2.1 s.1.2.2.1 s.1.2.2.2.1 s.1.2.2.2.2.1 r h)) (.nil))
  (F:=fun k s=>FX106 k s.1.1 s.1.2.1) (fun k s r h=>(e106 (GX106l0 k) (FX86 k) (FX91 k) (FX137 k) (FX144 k) (FX147 k) (FX165 k) (FX166 k) s).trans (b106 k s.1.1 s.1.2.1 r h)) k
theorem b122l0 (k:Nat) (x0:(List (List TQ))) (x3:Int):LeO (GX122l0 (k+1) x0 x3) (B122l0 (GX122l0 k) x0 x3):=by rw [GX122l0];exact LeO.refl _
theorem b122 (k:Nat) (x0:(List (List TQ))):LeO (FX122 k x0) (B122 (GX122l0 k) x0):=LeO.refl _
theorem ok122 (k:Nat):FeOk Tryz.prog (fe122 (FX122 k)):=
 fe_ok EOK HM (es:=fun k=>fes122) (fun k=>fz) (N:=23) (an:=an122) (c:=cd122) (rms:=rm122) (ask:=ask122) (rsk:=rsk122) (enc:=enc122) (dec:=dec122) (tbl:=[p122.getD 0 ⟨0,[], .skip⟩]) (fun s=>rfl) Tryz.func122 (by kernel_rfl) (by kernel_rfl) (by kernel_rfl) (fun k=>les122 (GX122l0 k))
  (fc ⟨fun s=>rfl,fz⟩) (fun k s0=> .cons (by kernel_rfl) (by kernel_rfl) (fun s r h=>(e122l0 (GX122l0 k) s0 s).trans (b122l0 k s.1.1 s.1.2.1 r h)) (.nil))
  (F:=fun k s=>FX122 k s.1.1) (fun k s r h=>(e122 (GX122l0 k) s).trans (b122 k s.1.1 r h)) k
theorem b107l0 (k:Nat) (x2:(List (List TQ))) (x3:(List TQ)) (x11:Int) (x13:Int) (x4:(List TQ)) (x10:(List (List TQ))) (x12:(List (List TQ))):LeO (GX107l0 (k+1) x2 x3 x11 x13 x4 x10 x12) (B107l0 (GX107l0 k) (GX107l1 k) (FX122 k) (FX146 k) x2 x3 x11 x13 x4 x10 x12):=by rw [GX107l0];exact LeO.refl _
theorem b107l1 (k:Nat) (x2:(List (List TQ))) (x3:(List TQ)) (x11:Int) (x13:Int) (x14:(List TQ)) (x60:Int) (x61:Int) (x4:(List TQ)) (x10:(List (List TQ))) (x12:(List (List TQ))):LeO (GX107l1 (k+1) x2 x3 x11 x13 x14 x60 x61 x4 x10 x12) (B107l1 (GX107l0 k) (GX107l1 k) (FX146 k) (FX166 k) x2 x3 x11 x13 x14 x60 x61 x4 x10 x12):=by rw [GX107l1];exact LeO.refl _
theorem b107 (k:Nat) (x0:(List TQ)) (x1:(List (List TQ))) (x2:(List (List TQ))) (x3:(List TQ)):LeO (FX107 k x0 x1 x2 x3) (B107 (GX107l0 k) (FX122 k) x0 x1 x2 x3):=LeO.refl _
theorem ok107 (k:Nat):FeOk Tryz.prog (fe107 (FX107 k)):=
 fe_ok EOK HM (es:=fun k=>fes107 (FX122 k) (FX146 k) (FX166 k)) (fun k=>fc ⟨ok122 k,fc ⟨ok146 k,fc ⟨ok166 k,fz⟩⟩⟩) (N:=92) (an:=an107) (c:=cd107) (rms:=rm107) (ask:=ask107) (rsk:=rsk107) (enc:=enc107) (dec:=dec107) (tbl:=[p107.getD 0 ⟨0,[], .skip⟩,p107.getD 1 ⟨0,[], .skip⟩]) (fun s=>rfl) Tryz.func107 (by kernel_rfl) (by kernel_rfl) (by kernel_rfl) (fun k=>les107 (GX107l0 k) (GX107l1 k))
  (fc ⟨fun s=>rfl,fc ⟨fun s=>rfl,fz⟩⟩) (fun k s0=> .cons (by kernel_rfl) (by kernel_rfl) (fun s r h=>(e107l0 (GX107l0 k) (GX107l1 k) (FX122 k) (FX146 k) (FX166 k) s0 s).trans (b107l0 k s.1.1 s.1.2.1 s.1.2.2.1 s.1.2.2.2.1 s.2.1 s.2.2.1 s.2.2.2.1 r h)) (.cons (by kernel_rfl) (by kernel_rfl) (fun s r h=>(e107l1 (GX107l0 k) (GX107l1 k) (FX122 k) (FX146 k) (FX166 k) s0 s).trans (b107l1 k s.1.1 s.1.2.1 s.1.2.2.1 s.1.2.2.2.1 s.1.2.2.2.2.1 s.1.2.2.2.2.2.1 s.1.2.2.2.2.2.2.1 s.2.1 s.2.2.1 s.2.2.2.1 r h)) (.nil)))
  (F:=fun k s=>FX107 k s.1.1 s.1.2.1 s.1.2.2.1 s.1.2.2.2.1) (fun k s r h=>(e107 (GX107l0 k) (GX107l1 k) (FX122 k) (FX146 k) (FX166 k) s).trans (b107 k s.1.1 s.1.2.1 s.1.2.2.1 s.1.2.2.2.1 r h)) k
theorem b176 (k:Nat) (x0:(List TQ)):LeO (FX176 k x0) (B176 (FX153Large k) x0):=LeO.refl _
theorem ok176 (k:Nat):FeOk Tryz.prog (fe176 (FX176 k)):=
 fe_ok EOK HM (es:=fun k=>fes176 (FX153Large k)) (fun k=>fc ⟨ok153Large k,fz⟩) (N:=5) (an:=an176) (c:=cd176) (rms:=rm176) (ask:=ask176) (rsk:=rsk176) (enc:=enc176) (dec:=dec176) (tbl:=[]) (fun s=>rfl) Tryz.func176 (by kernel_rfl) (by kernel_rfl) (by kernel_rfl) (fun k=>les176)
  (fz) (fun k s0=> .nil)
  (F:=fun k s=>FX176 k s.1.1) (fun k s r h=>(e176 (FX153Large k) s).trans (b176 k s.1.1 r h)) k
theorem b216Largel0 (k:Nat) (x0:(List (List TQ))) (x7:Int) (x8:Int):LeO (GX216Largel0 (k+1) x0 x7 x8) (B216Largel0 (GX216Largel0 k) (FX176 k) x0 x7 x8):=by rw [GX216Largel0];exact LeO.refl _
theorem b216Large (k:Nat) (x0:(List (List TQ))):LeO (FX216Large k x0) (B216Large (GX216Largel0 k) x0):=LeO.refl _
theorem ok216Large (k:Nat):FeOk Tryz.prog (fe216Large (FX216Large k)):=
 fe_ok EOK HM (es:=fun k=>fes216Large (FX176 k)) (fun k=>fc ⟨ok176 k,fz⟩) (N:=19) (an:=an216Large) (c:=cd216Large) (rms:=rm216Large) (ask:=ask216Large) (rsk:=rsk216Large) (enc:=enc216Large) (dec:=dec216Large) (tbl:=[p216Large.getD 0 ⟨0,[], .skip⟩]) (fun s=>rfl) Tryz.func216 (by kernel_rfl) (by kernel_rfl) (by kernel_rfl) (fun k=>les216Large (GX216Largel0 k))
  (fc ⟨fun s=>rfl,fz⟩) (fun k s0=> .cons (by kernel_rfl) (by kernel_rfl) (fun s r h=>(e216Largel0 (GX216Largel0 k) (FX176 k) s0 s).trans (b216Largel0 k s.1.1 s.1.2.1 s.1.2.2.1 r h)) (.nil))
  (F:=fun k s=>FX216Large k s.1.1) (fun k s r h=>(e216Large (GX216Largel0 k) (FX176 k) s).trans (b216Large k s.1.1 r h)) k
theorem b175Large (k:Nat) (x0:(List (List TQ))):LeO (FX175Large k x0) (B175Large (FX216Large k) x0):=LeO.refl _
theorem ok175Large (k:Nat):FeOk Tryz.prog (fe175Large (FX175Large k)):=
 fe_ok EOK HM (es:=fun k=>fes175Large (FX216Large k)) (fun k=>fc ⟨ok216Large k,fz⟩) (N:=9) (an:=an175Large) (c:=cd175Large) (rms:=rm175Large) (ask:=ask175Large) (rsk:=rsk175Large) (enc:=enc175Large) (dec:=dec175Large) (tbl:=[]) (fun s=>rfl) Tryz.func175 (by kernel_rfl) (by kernel_rfl) (by kernel_rfl) (fun k=>les175Large)
  (fz) (fun k s0=> .nil)
  (F:=fun k s=>FX175Large k s.1.1) (fun k s r h=>(e175Large (FX216Large k) s).trans (b175Large k s.1.1 r h)) k
theorem b128 (k:Nat) (x0:(List (List TQ))):LeO (FX128 k x0) (B128 (FX175Large k) x0):=LeO.refl _
theorem ok128 (k:Nat):FeOk Tryz.prog (fe128 (FX128 k)):=
 fe_ok EOK HM (es:=fun k=>fes128 (FX175Large k)) (fun k=>fc ⟨ok175Large k,fz⟩) (N:=5) (an:=an128) (c:=cd128) (rms:=rm128) (ask:=ask128) (rsk:=rsk128) (enc:=enc128) (dec:=dec128) (tbl:=[]) (fun s=>rfl) Tryz.func128 (by kernel_rfl) (by kernel_rfl) (by kernel_rfl) (fun k=>les128)
  (fz) (fun k s0=> .nil)
  (F:=fun k s=>FX128 k s.1.1) (fun k s r h=>(e128 (FX175Large k) s).trans (b128 k s.1.1 r h)) k
theorem b108 (k:Nat) (x0:(List (List TQ))):LeO (FX108 k x0) (B108 (FX128 k) x0):=LeO.refl _
theorem ok108 (k:Nat):FeOk Tryz.prog (fe108 (FX108 k)):=
 fe_ok EOK HM (es:=fun k=>fes108 (FX128 k)) (fun k=>fc ⟨ok128 k,fz⟩) (N:=10) (an:=an108) (c:=cd108) (rms:=rm108) (ask:=ask108) (rsk:=rsk108) (enc:=enc108) (dec:=dec108) (tbl:=[]) (fun s=>rfl) Tryz.func108 (by kernel_rfl) (by kernel_rfl) (by kernel_rfl) (fun k=>les108)
  (fz) (fun k s0=> .nil)
  (F:=fun k s=>FX108 k s.1.1) (fun k s r h=>(e108 (FX128 k) s).trans (b108 k s.1.1 r h)) k
theorem b28 (k:Nat) (x0:(List TQ)) (x1:(List (List TQ))) (x2:(List (List TQ))):LeO (FX28 k x0 x1 x2) (B28 (FX83 k) (FX106 k) (FX107 k) (FX108 k) x0 x1 x2):=LeO.refl _
theorem ok28 (k:Nat):FeOk Tryz.prog (fe28 (FX28 k)):=
 fe_ok EOK HM (es:=fun k=>fes28 (FX83 k) (FX106 k) (FX107 k) (FX108 k)) (fun k=>fc ⟨ok83 k,fc ⟨ok106 k,fc ⟨ok107 k,fc ⟨ok108 k,fz⟩⟩⟩⟩) (N:=55) (an:=an28) (c:=cd28) (rms:=rm28) (ask:=ask28) (rsk:=rsk28) (enc:=enc28) (dec:=dec28) (tbl:=[]) (fun s=>rfl) Tryz.func28 (by kernel_rfl) (by kernel_rfl) (by kernel_rfl) (fun k=>les28)
  (fz) (fun k s0=> .nil)
  (F:=fun k s=>FX28 k s.1.1 s.1.2.1 s.1.2.2.1) (fun k s r h=>(e28 (FX83 k) (FX106 k) (FX107 k) (FX108 k) s).trans (b28 k s.1.1 s.1.2.1 s.1.2.2.1 r h)) k
theorem b29l0 (k:Nat) (x0:(List (List TQ))) (x1:(List (List TQ))) (x12:Int) (x13:Int):LeO (GX29l0 (k+1) x0 x1 x12 x13) (B29l0 (GX29l0 k) (FX18 k) x0 x1 x12 x13):=by rw [GX29l0];exact LeO.refl _
theorem b29 (k:Nat) (x0:(List (List TQ))) (x1:(List (List TQ))):LeO (FX29 k x0 x1) (B29 (GX29l0 k) x0 x1):=LeO.refl _
theorem ok29 (k:Nat):FeOk Tryz.prog (fe29 (FX29 k)):=
 fe_ok EOK HM (es:=fun k=>fes29 (FX18 k)) (fun k=>fc ⟨ok18 k,fz⟩) (N:=27) (an:=an29) (c:=cd29) (rms:=rm29) (ask:=ask29) (rsk:=rsk29) (enc:=enc29) (dec:=dec29) (tbl:=[p29.getD 0 ⟨0,[], .skip⟩]) (fun s=>rfl) Tryz.func29 (by kernel_rfl) (by kernel_rfl) (by kernel_rfl) (fun k=>les29 (GX29l0 k))
  (fc ⟨fun s=>rfl,fz⟩) (fun k s0=> .cons (by kernel_rfl) (by kernel_rfl) (fun s r h=>(e29l0 (GX29l0 k) (FX18 k) s0 s).trans (b29l0 k s.1.1 s.1.2.1 s.1.2.2.1 s.1.2.2.2.1 r h)) (.nil))
  (F:=fun k s=>FX29 k s.1.1 s.1.2.1) (fun k s r h=>(e29 (GX29l0 k) (FX18 k) s).trans (b29 k s.1.1 s.1.2.1 r h)) k
theorem b131l0 (k:Nat) (x2:(List TQ)) (x13:(List (List TQ))) (x14:Int) (x15:Int) (x3:(List TQ)) (x7:(List (List TQ))):LeO (GX131l0 (k+1) x2 x13 x14 x15 x3 x7) (B131l0 (GX131l0 k) (FX122 k) (FX146 k) x2 x13 x14 x15 x3 x7):=by rw [GX131l0];exact LeO.refl _
theorem b131 (k:Nat) (x0:(List TQ)) (x1:(List (List TQ))) (x2:(List TQ)):LeO (FX131 k x0 x1 x2) (B131 (GX131l0 k) x0 x1 x2):=LeO.refl _
theorem ok131 (k:Nat):FeOk Tryz.prog (fe131 (FX131 k)):=
 fe_ok EOK HM (es:=fun k=>fes131 (FX122 k) (FX146 k)) (fun k=>fc ⟨ok122 k,fc ⟨ok146 k,fz⟩⟩) (N:=31) (an:=an131) (c:=cd131) (rms:=rm131) (ask:=ask131) (rsk:=rsk131) (enc:=enc131) (dec:=dec131) (tbl:=[p131.getD 0 ⟨0,[], .skip⟩]) (fun s=>rfl) Tryz.func131 (by kernel_rfl) (by kernel_rfl) (by kernel_rfl) (fun k=>les131 (GX131l0 k))
  (fc ⟨fun s=>rfl,fz⟩) (fun k s0=> .cons (by kernel_rfl) (by kernel_rfl) (fun s r h=>(e131l0 (GX131l0 k) (FX122 k) (FX146 k) s0 s).trans (b131l0 k s.1.1 s.1.2.1 s.1.2.2.1 s.1.2.2.2.1 s.2.1 s.2.2.1 r h)) (.nil))
  (F:=fun k s=>FX131 k s.1.1 s.1.2.1 s.1.2.2.1) (fun k s r h=>(e131 (GX131l0 k) (FX122 k) (FX146 k) s).trans (b131 k s.1.1 s.1.2.1 s.1.2.2.1 r h)) k
theorem b110 (k:Nat) (x0:(List TQ)) (x1:(List (List TQ))):LeO (FX110 k x0 x1) (B110 (FX106 k) (FX131 k) x0 x1):=LeO.refl _
theorem ok110 (k:Nat):FeOk Tryz.prog (fe110 (FX110 k)):=
 fe_ok EOK HM (es:=fun k=>fes110 (FX106 k) (FX131 k)) (fun k=>fc ⟨ok106 k,fc ⟨ok131 k,fz⟩⟩) (N:=29) (an:=an110) (c:=cd110) (rms:=rm110) (ask:=ask110) (rsk:=rsk110) (enc:=enc110) (dec:=dec110) (tbl:=[]) (fun s=>rfl) Tryz.func110 (by kernel_rfl) (by kernel_rfl) (by kernel_rfl) (fun k=>les110)
  (fz) (fun k s0=> .nil)
  (F:=fun k s=>FX110 k s.1.1 s.1.2.1) (fun k s r h=>(e110 (FX106 k) (FX131 k) s).trans (b110 k s.1.1 s.1.2.1 r h)) k
theorem b112 (k:Nat) (x0:(List (List TQ))):LeO (FX112 k x0) (B112 x0):=LeO.refl _
theorem ok112 (k:Nat):FeOk Tryz.prog (fe112 (FX112 k)):=
 fe_ok EOK HM (es:=fun k=>fes112) (fun k=>fz) (N:=3) (an:=an112) (c:=cd112) (rms:=rm112) (ask:=ask112) (rsk:=rsk112) (enc:=enc112) (dec:=dec112) (tbl:=[]) (fun s=>rfl) Tryz.func112 (by kernel_rfl) (by kernel_rfl) (by kernel_rfl) (fun k=>les112)
  (fz) (fun k s0=> .nil)
  (F:=fun k s=>FX112 k s.1.1) (fun k s r h=>(e112 s).trans (b112 k s.1.1 r h)) k
theorem b111Gcd (k:Nat) (x0:((List (List TQ))×Unit)):LeO (FX111Gcd k x0) (B111Gcd (FX108 k) (FX112 k) x0):=LeO.refl _
theorem ok111Gcd (k:Nat):FeOk Tryz.prog (fe111Gcd (FX111Gcd k)):=
 fe_ok EOK HM (es:=fun k=>fes111Gcd (FX108 k) (FX112 k)) (fun k=>fc ⟨ok108 k,fc ⟨ok112 k,fz⟩⟩) (N:=10) (an:=an111Gcd) (c:=cd111Gcd) (rms:=rm111Gcd) (ask:=ask111Gcd) (rsk:=rsk111Gcd) (enc:=enc111Gcd) (dec:=dec111Gcd) (tbl:=[]) (fun s=>rfl) Tryz.func111 (by kernel_rfl) (by kernel_rfl) (by kernel_rfl) (fun k=>les111Gcd)
  (fz) (fun k s0=> .nil)
  (F:=fun k s=>FX111Gcd k s.1.1) (fun k s r h=>(e111Gcd (FX108 k) (FX112 k) s).trans (b111Gcd k s.1.1 r h)) k
theorem b31l0 (k:Nat) (x3:(List TQ)) (x9:((List (List TQ))×(List (List TQ)))):LeO (GX31l0 (k+1) x3 x9) (B31l0 (GX31l0 k) (FX86 k) (FX107 k) (FX110 k) (FX111Gcd k) x3 x9):=by rw [GX31l0];exact LeO.refl _
theorem b31 (k:Nat) (x0:(List TQ)) (x1:(List (List TQ))) (x2:(List (List TQ))):LeO (FX31 k x0 x1 x2) (B31 (GX31l0 k) (FX83 k) x0 x1 x2):=LeO.refl _
theorem ok31 (k:Nat):FeOk Tryz.prog (fe31 (FX31 k)):=
 fe_ok EOK HM (es:=fun k=>fes31 (FX83 k) (FX86 k) (FX107 k) (FX110 k) (FX111Gcd k)) (fun k=>fc ⟨ok83 k,fc ⟨ok86 k,fc ⟨ok107 k,fc ⟨ok110 k,fc ⟨ok111Gcd k,fz⟩⟩⟩⟩⟩) (N:=66) (an:=an31) (c:=cd31) (rms:=rm31) (ask:=ask31) (rsk:=rsk31) (enc:=enc31) (dec:=dec31) (tbl:=[p31.getD 0 ⟨0,[], .skip⟩]) (fun s=>rfl) Tryz.func31 (by kernel_rfl) (by kernel_rfl) (by kernel_rfl) (fun k=>les31 (GX31l0 k))
  (fc ⟨fun s=>rfl,fz⟩) (fun k s0=> .cons (by kernel_rfl) (by kernel_rfl) (fun s r h=>(e31l0 (GX31l0 k) (FX83 k) (FX86 k) (FX107 k) (FX110 k) (FX111Gcd k) s0 s).trans (b31l0 k s.2.1 s.2.2.1 r h)) (.nil))
  (F:=fun k s=>FX31 k s.1.1 s.1.2.1 s.1.2.2.1) (fun k s r h=>(e31 (GX31l0 k) (FX83 k) (FX86 k) (FX107 k) (FX110 k) (FX111Gcd k) s).trans (b31 k s.1.1 s.1.2.1 s.1.2.2.1 r h)) k
theorem b174 (k:Nat) (x0:(List (List TQ))) (x1:Int):LeO (FX174 k x0 x1) (B174 x0 x1):=LeO.refl _
theorem ok174 (k:Nat):FeOk Tryz.prog (fe174 (FX174 k)):=
 fe_ok EOK HM (es:=fun k=>fes174) (fun k=>fz) (N:=13) (an:=an174) (c:=cd174) (rms:=rm174) (ask:=ask174) (rsk:=rsk174) (enc:=enc174) (dec:=dec174) (tbl:=[]) (fun s=>rfl) Tryz.func174 (by kernel_rfl) (by kernel_rfl) (by kernel_rfl) (fun k=>les174)
  (fz) (fun k s0=> .nil)
  (F:=fun k s=>FX174 k s.1.1 s.1.2.1) (fun k s r h=>(e174 s).trans (b174 k s.1.1 s.1.2.1 r h)) k
theorem b126l0 (k:Nat) (x0:(List (List TQ))) (x1:(List (List TQ))) (x14:Int) (x15:Int) (x5:(List (List TQ))):LeO (GX126l0 (k+1) x0 x1 x14 x15 x5) (B126l0 (GX126l0 k) (FX90 k) (FX122 k) (FX174 k) x0 x1 x14 x15 x5):=by rw [GX126l0];exact LeO.refl _
theorem b126 (k:Nat) (x0:(List (List TQ))) (x1:(List (List TQ))):LeO (FX126 k x0 x1) (B126 (GX126l0 k) x0 x1):=LeO.refl _
theorem ok126 (k:Nat):FeOk Tryz.prog (fe126 (FX126 k)):=
 fe_ok EOK HM (es:=fun k=>fes126 (FX90 k) (FX122 k) (FX174 k)) (fun k=>fc ⟨ok90 k,fc ⟨ok122 k,fc ⟨ok174 k,fz⟩⟩⟩) (N:=31) (an:=an126) (c:=cd126) (rms:=rm126) (ask:=ask126) (rsk:=rsk126) (enc:=enc126) (dec:=dec126) (tbl:=[p126.getD 0 ⟨0,[], .skip⟩]) (fun s=>rfl) Tryz.func126 (by kernel_rfl) (by kernel_rfl) (by kernel_rfl) (fun k=>les126 (GX126l0 k))
  (fc ⟨fun s=>rfl,fz⟩) (fun k s0=> .cons (by kernel_rfl) (by kernel_rfl) (fun s r h=>(e126l0 (GX126l0 k) (FX90 k) (FX122 k) (FX174 k) s0 s).trans (b126l0 k s.1.1 s.1.2.1 s.1.2.2.1 s.1.2.2.2.1 s.2.1 r h)) (.nil))
  (F:=fun k s=>FX126 k s.1.1 s.1.2.1) (fun k s r h=>(e126 (GX126l0 k) (FX90 k) (FX122 k) (FX174 k) s).trans (b126 k s.1.1 s.1.2.1 r h)) k
theorem b127l0 (k:Nat) (x2:(List (List TQ))) (x28:(List (List TQ))) (x29:Int) (x30:Int) (x3:(List TQ)) (x7:(List (List TQ))):LeO (GX127l0 (k+1) x2 x28 x29 x30 x3 x7) (B127l0 (GX127l1 k) (GX127l2 k) x2 x28 x29 x30 x3 x7):=by rw [GX127l0];exact LeO.refl _
theorem b127l1 (k:Nat) (x2:(List (List TQ))) (x8:Int) (x9:(List TQ)) (x28:(List (List TQ))) (x29:Int) (x30:Int) (x35:(List (List TQ))) (x36:Int) (x37:Int) (x3:(List TQ)) (x7:(List (List TQ))):LeO (GX127l1 (k+1) x2 x8 x9 x28 x29 x30 x35 x36 x37 x3 x7) (B127l1 (GX127l0 k) (GX127l1 k) (FX90 k) (FX91 k) x2 x8 x9 x28 x29 x30 x35 x36 x37 x3 x7):=by rw [GX127l1];exact LeO.refl _
theorem b127l2 (k:Nat) (x60:Int) (x61:Int) (x3:(List TQ)) (x7:(List (List TQ))):LeO (GX127l2 (k+1) x60 x61 x3 x7) (B127l2 (GX127l2 k) (FX122 k) (FX165 k) x60 x61 x3 x7):=by rw [GX127l2];exact LeO.refl _
theorem b127 (k:Nat) (x0:(List TQ)) (x1:(List (List TQ))) (x2:(List (List TQ))):LeO (FX127 k x0 x1 x2) (B127 (GX127l0 k) x0 x1 x2):=LeO.refl _
theorem ok127 (k:Nat):FeOk Tryz.prog (fe127 (FX127 k)):=
 fe_ok EOK HM (es:=fun k=>fes127 (FX90 k) (FX91 k) (FX122 k) (FX165 k)) (fun k=>fc ⟨ok90 k,fc ⟨ok91 k,fc ⟨ok122 k,fc ⟨ok165 k,fz⟩⟩⟩⟩) (N:=77) (an:=an127) (c:=cd127) (rms:=rm127) (ask:=ask127) (rsk:=rsk127) (enc:=enc127) (dec:=dec127) (tbl:=[p127.getD 0 ⟨0,[], .skip⟩,p127.getD 1 ⟨0,[], .skip⟩,p127.getD 2 ⟨0,[], .skip⟩]) (fun s=>rfl) Tryz.func127 (by kernel_rfl) (by kernel_rfl) (by kernel_rfl) (fun k=>les127 (GX127l0 k) (GX127l1 k) (GX127l2 k))
  (fc ⟨fun s=>rfl,fc ⟨fun s=>rfl,fc ⟨fun s=>rfl,fz⟩⟩⟩) (fun k s0=> .cons (by kernel_rfl) (by kernel_rfl) (fun s r h=>(e127l0 (GX127l0 k) (GX127l1 k) (GX127l2 k) (FX90 k) (FX91 k) (FX122 k) (FX165 k) s0 s).trans (b127l0 k s.1.1 s.1.2.1 s.1.2.2.1 s.1.2.2.2.1 s.2.1 s.2.2.1 r h)) (.cons (by kernel_rfl) (by kernel_rfl) (fun s r h=>(e127l1 (GX127l0 k) (GX127l1 k) (GX127l2 k) (FX90 k) (FX91 k) (FX122 k) (FX165 k) s0 s).trans (b127l1 k s.1.1 s.1.2.1 s.1.2.2.1 s.1.2.2.2.1 s.1.2.2.2.2.1 s.1.2.2.2.2.2.1 s.1.2.2.2.2.2.2.1 s.1.2.2.2.2.2.2.2.1 s.1.2.2.2.2.2.2.2.2.1 s.2.1 s.2.2.1 r h)) (.cons (by kernel_rfl) (by kernel_rfl) (fun s r h=>(e127l2 (GX127l0 k) (GX127l1 k) (GX127l2 k) (FX90 k) (FX91 k) (FX122 k) (FX165 k) s0 s).trans (b127l2 k s.1.1 s.1.2.1 s.2.1 s.2.2.1 r h)) (.nil))))
  (F:=fun k s=>FX127 k s.1.1 s.1.2.1 s.1.2.2.1) (fun k s r h=>(e127 (GX127l0 k) (GX127l1 k) (GX127l2 k) (FX90 k) (FX91 k) (FX122 k) (FX165 k) s).trans (b127 k s.1.1 s.1.2.1 s.1.2.2.1 r h)) k
theorem b125l0 (k:Nat) (x1:(List (List TQ))) (x2:(List TQ)) (x4:(List (List TQ))) (x5:(List (List TQ))) (x6:Int):LeO (GX125l0 (k+1) x1 x2 x4 x5 x6) (B125l0 (GX125l0 k) (FX122 k) (FX126 k) (FX127 k) x1 x2 x4 x5 x6):=by rw [GX125l0];exact LeO.refl _
theorem b125 (k:Nat) (x0:(List TQ)) (x1:(List (List TQ))) (x2:(List TQ)):LeO (FX125 k x0 x1 x2) (B125 (GX125l0 k) (FX86 k) (FX122 k) x0 x1 x2):=LeO.refl _
theorem ok125 (k:Nat):FeOk Tryz.prog (fe125 (FX125 k)):=
 fe_ok EOK HM (es:=fun k=>fes125 (FX86 k) (FX122 k) (FX126 k) (FX127 k)) (fun k=>fc ⟨ok86 k,fc ⟨ok122 k,fc ⟨ok126 k,fc ⟨ok127 k,fz⟩⟩⟩⟩) (N:=31) (an:=an125) (c:=cd125) (rms:=rm125) (ask:=ask125) (rsk:=rsk125) (enc:=enc125) (dec:=dec125) (tbl:=[p125.getD 0 ⟨0,[], .skip⟩]) (fun s=>rfl) Tryz.func125 (by kernel_rfl) (by kernel_rfl) (by kernel_rfl) (fun k=>les125 (GX125l0 k))
  (fc ⟨fun s=>rfl,fz⟩) (fun k s0=> .cons (by kernel_rfl) (by kernel_rfl) (fun s r h=>(e125l0 (GX125l0 k) (FX86 k) (FX122 k) (FX126 k) (FX127 k) s0 s).trans (b125l0 k s.1.1 s.1.2.1 s.1.2.2.1 s.1.2.2.2.1 s.1.2.2.2.2.1 r h)) (.nil))
  (F:=fun k s=>FX125 k s.1.1 s.1.2.1 s.1.2.2.1) (fun k s r h=>(e125 (GX125l0 k) (FX86 k) (FX122 k) (FX126 k) (FX127 k) s).trans (b125 k s.1.1 s.1.2.1 s.1.2.2.1 r h)) k
theorem b111Shift (k:Nat) (x0:((List TQ)×(List (List TQ))×(List TQ)×Unit)):LeO (FX111Shift k x0) (B111Shift (FX108 k) (FX125 k) x0):=LeO.refl _
theorem ok111Shift (k:Nat):FeOk Tryz.prog (fe111Shift (FX111Shift k)):=
 fe_ok EOK HM (es:=fun k=>fes111Shift (FX108 k) (FX125 k)) (fun k=>fc ⟨ok108 k,fc ⟨ok125 k,fz⟩⟩) (N:=10) (an:=an111Shift) (c:=cd111Shift) (rms:=rm111Shift) (ask:=ask111Shift) (rsk:=rsk111Shift) (enc:=enc111Shift) (dec:=dec111Shift) (tbl:=[]) (fun s=>rfl) Tryz.func111 (by kernel_rfl) (by kernel_rfl) (by kernel_rfl) (fun k=>les111Shift)
  (fz) (fun k s0=> .nil)
  (F:=fun k s=>FX111Shift k s.1.1) (fun k s r h=>(e111Shift (FX108 k) (FX125 k) s).trans (b111Shift k s.1.1 r h)) k
theorem b50 (k:Nat) (x0:(List TQ)) (x1:(List (List TQ))) (x2:(List TQ)):LeO (FX50 k x0 x1 x2) (B50 (FX83 k) (FX111Shift k) (FX124 k) x0 x1 x2):=LeO.refl _
theorem ok50 (k:Nat):FeOk Tryz.prog (fe50 (FX50 k)):=
 fe_ok EOK HM (es:=fun k=>fes50 (FX83 k) (FX111Shift k) (FX124 k)) (fun k=>fc ⟨ok83 k,fc ⟨ok111Shift k,fc ⟨ok124 k,fz⟩⟩⟩) (N:=27) (an:=an50) (c:=cd50) (rms:=rm50) (ask:=ask50) (rsk:=rsk50) (enc:=enc50) (dec:=dec50) (tbl:=[]) (fun s=>rfl) Tryz.func50 (by kernel_rfl) (by kernel_rfl) (by kernel_rfl) (fun k=>les50)
  (fz) (fun k s0=> .nil)
  (F:=fun k s=>FX50 k s.1.1 s.1.2.1 s.1.2.2.1) (fun k s r h=>(e50 (FX83 k) (FX111Shift k) (FX124 k) s).trans (b50 k s.1.1 s.1.2.1 s.1.2.2.1 r h)) k
theorem b16 (k:Nat):LeO (FX16 k) (B16 (FX17 k) (FX18 k) (FX22 k) (FX28 k) (FX29 k) (FX31 k) (FX50 k)):=LeO.refl _
theorem ok16 (k:Nat):FeOk Tryz.prog (fe16 (FX16 k)):=
 fe_ok EOK HM (es:=fun k=>fes16 (FX17 k) (FX18 k) (FX22 k) (FX28 k) (FX29 k) (FX31 k) (FX50 k)) (fun k=>fc ⟨ok17 k,fc ⟨ok18 k,fc ⟨ok22 k,fc ⟨ok28 k,fc ⟨ok29 k,fc ⟨ok31 k,fc ⟨ok50 k,fz⟩⟩⟩⟩⟩⟩⟩) (N:=146) (an:=an16) (c:=cd16) (rms:=rm16) (ask:=ask16) (rsk:=rsk16) (enc:=enc16) (dec:=dec16) (tbl:=[]) (fun s=>rfl) Tryz.func16 (by kernel_rfl) (by kernel_rfl) (by kernel_rfl) (fun k=>les16)
  (fz) (fun k s0=> .nil)
  (F:=fun k s=>FX16 k) (fun k s r h=>(e16 (FX17 k) (FX18 k) (FX22 k) (FX28 k) (FX29 k) (FX31 k) (FX50 k) s).trans (b16 k r h)) k
theorem b159 (k:Nat) (x0:TI):LeO (FX159 k x0) (B159 x0):=LeO.refl _
theorem ok159 (k:Nat):FeOk Tryz.prog (fe159 (FX159 k)):=
 fe_ok EOK HM (es:=fun k=>fes159) (fun k=>fz) (N:=5) (an:=an159) (c:=cd159) (rms:=rm159) (ask:=ask159) (rsk:=rsk159) (enc:=enc159) (dec:=dec159) (tbl:=[]) (fun s=>rfl) Tryz.func159 (by kernel_rfl) (by kernel_rfl) (by kernel_rfl) (fun k=>les159)
  (fz) (fun k s0=> .nil)
  (F:=fun k s=>FX159 k s.1.1) (fun k s r h=>(e159 s).trans (b159 k s.1.1 r h)) k
theorem b198 (k:Nat) (x0:Bool) (x1:ByteArray):LeO (FX198 k x0 x1) (B198 x0 x1):=LeO.refl _
theorem ok198 (k:Nat):FeOk Tryz.prog (fe198 (FX198 k)):=
 fe_ok EOK HM (es:=fun k=>fes198) (fun k=>fz) (N:=12) (an:=an198) (c:=cd198) (rms:=rm198) (ask:=ask198) (rsk:=rsk198) (enc:=enc198) (dec:=dec198) (tbl:=[]) (fun s=>rfl) Tryz.func198 (by kernel_rfl) (by kernel_rfl) (by kernel_rfl) (fun k=>les198)
  (fz) (fun k s0=> .nil)
  (F:=fun k s=>FX198 k s.1.1 s.1.2.1) (fun k s r h=>(e198 s).trans (b198 k s.1.1 s.1.2.1 r h)) k
theorem b249l0 (k:Nat) (x0:Int) (y0:(List Int)):LeO (GX249l0 (k+1) x0 y0) (B249l0 (GX249l0 k) x0 y0):=by rw [GX249l0];exact LeO.refl _
theorem b249 (k:Nat) (y0:(List Int)):LeO (FX249 k y0) (B249 (GX249l0 k) y0):=LeO.refl _
theorem ok249 (k:Nat):FeOk Tryz.prog (fe249 (FX249 k)):=
 fe_ok EOK HM (es:=fun k=>fes249) (fun k=>fz) (N:=21) (an:=an249) (c:=cd249) (rms:=rm249) (ask:=ask249) (rsk:=rsk249) (enc:=enc249) (dec:=dec249) (tbl:=[p249.getD 0 ⟨0,[], .skip⟩]) (fun s=>rfl) Tryz.func249 (by kernel_rfl) (by kernel_rfl) (by kernel_rfl) (fun k=>les249 (GX249l0 k))
  (fc ⟨fun s=>rfl,fz⟩) (fun k s0=> .cons (by kernel_rfl) (by kernel_rfl) (fun s r h=>(e249l0 (GX249l0 k) s0 s).trans (b249l0 k s.1.1 s.2.1 r h)) (.nil))
  (F:=fun k s=>FX249 k s.2.1) (fun k s r h=>(e249 (GX249l0 k) s).trans (b249 k s.2.1 r h)) k
theorem b229l0 (k:Nat) (x0:ByteArray) (x4:Int) (x3:(List Int)):LeO (GX229l0 (k+1) x0 x4 x3) (B229l0 (GX229l1 k) (FX249 k) x0 x4 x3):=by rw [GX229l0];exact LeO.refl _
theorem b229l1 (k:Nat) (x0:ByteArray) (x4:Int) (x5:Int) (x6:Int) (x3:(List Int)):LeO (GX229l1 (k+1) x0 x4 x5 x6 x3) (B229l1 (GX229l0 k) (GX229l1 k) x0 x4 x5 x6 x3):=by rw [GX229l1];exact LeO.refl _
theorem b229 (k:Nat) (x0:ByteArray):LeO (FX229 k x0) (B229 (GX229l0 k) x0):=LeO.refl _
theorem ok229 (k:Nat):FeOk Tryz.prog (fe229 (FX229 k)):=
 fe_ok EOK HM (es:=fun k=>fes229 (FX249 k)) (fun k=>fc ⟨ok249 k,fz⟩) (N:=34) (an:=an229) (c:=cd229) (rms:=rm229) (ask:=ask229) (rsk:=rsk229) (enc:=enc229) (dec:=dec229) (tbl:=[p229.getD 0 ⟨0,[], .skip⟩,p229.getD 1 ⟨0,[], .skip⟩]) (fun s=>rfl) Tryz.func229 (by kernel_rfl) (by kernel_rfl) (by kernel_rfl) (fun k=>les229 (GX229l0 k) (GX229l1 k))
  (fc ⟨fun s=>rfl,fc ⟨fun s=>rfl,fz⟩⟩) (fun k s0=> .cons (by kernel_rfl) (by kernel_rfl) (fun s r h=>(e229l0 (GX229l0 k) (GX229l1 k) (FX249 k) s0 s).trans (b229l0 k s.1.1 s.1.2.1 s.2.1 r h)) (.cons (by kernel_rfl) (by kernel_rfl) (fun s r h=>(e229l1 (GX229l0 k) (GX229l1 k) (FX249 k) s0 s).trans (b229l1 k s.1.1 s.1.2.1 s.1.2.2.1 s.1.2.2.2.1 s.2.1 r h)) (.nil)))
  (F:=fun k s=>FX229 k s.1.1) (fun k s r h=>(e229 (GX229l0 k) (GX229l1 k) (FX249 k) s).trans (b229 k s.1.1 r h)) k
theorem b199l0 (k:Nat) (x8:Int) (x9:Int) (x5:(List Int)) (x6:(List Int)) (x7:(List Int)):LeO (GX199l0 (k+1) x8 x9 x5 x6 x7) (B199l0 (GX199l0 k) (FX221 k) x8 x9 x5 x6 x7):=by rw [GX199l0];exact LeO.refl _
theorem b199 (k:Nat) (x0:ByteArray) (x1:ByteArray):LeO (FX199 k x0 x1) (B199 (GX199l0 k) (FX229 k) x0 x1):=LeO.refl _
theorem ok199 (k:Nat):FeOk Tryz.prog (fe199 (FX199 k)):=
 fe_ok EOK HM (es:=fun k=>fes199 (FX221 k) (FX229 k)) (fun k=>fc ⟨ok221 k,fc ⟨ok229 k,fz⟩⟩) (N:=61) (an:=an199) (c:=cd199) (rms:=rm199) (ask:=ask199) (rsk:=rsk199) (enc:=enc199) (dec:=dec199) (tbl:=[p199.getD 0 ⟨0,[], .skip⟩]) (fun s=>rfl) Tryz.func199 (by kernel_rfl) (by kernel_rfl) (by kernel_rfl) (fun k=>les199 (GX199l0 k))
  (fc ⟨fun s=>rfl,fz⟩) (fun k s0=> .cons (by kernel_rfl) (by kernel_rfl) (fun s r h=>(e199l0 (GX199l0 k) (FX221 k) (FX229 k) s0 s).trans (b199l0 k s.1.1 s.1.2.1 s.2.1 s.2.2.1 s.2.2.2.1 r h)) (.nil))
  (F:=fun k s=>FX199 k s.1.1 s.1.2.1) (fun k s r h=>(e199 (GX199l0 k) (FX221 k) (FX229 k) s).trans (b199 k s.1.1 s.1.2.1 r h)) k
theorem b200 (k:Nat) (x0:ByteArray) (x1:ByteArray):LeO (FX200 k x0 x1) (B200 x0 x1):=LeO.refl _
theorem ok200 (k:Nat):FeOk Tryz.prog (fe200 (FX200 k)):=
 fe_ok EOK HM (es:=fun k=>fes200) (fun k=>fz) (N:=27) (an:=an200) (c:=cd200) (rms:=rm200) (ask:=ask200) (rsk:=rsk200) (enc:=enc200) (dec:=dec200) (tbl:=[]) (fun s=>rfl) Tryz.func200 (by kernel_rfl) (by kernel_rfl) (by kernel_rfl) (fun k=>les200)
  (fz) (fun k s0=> .nil)
  (F:=fun k s=>FX200 k s.1.1 s.1.2.1) (fun k s r h=>(e200 s).trans (b200 k s.1.1 s.1.2.1 r h)) k
theorem b201l0 (k:Nat) (x7:Int) (x8:Int) (x5:(List Int)) (x6:(List Int)):LeO (GX201l0 (k+1) x7 x8 x5 x6) (B201l0 (GX201l0 k) (FX221 k) x7 x8 x5 x6):=by rw [GX201l0];exact LeO.refl _
theorem b201 (k:Nat) (x0:ByteArray) (x1:ByteArray):LeO (FX201 k x0 x1) (B201 (GX201l0 k) (FX200 k) (FX229 k) x0 x1):=LeO.refl _
theorem ok201 (k:Nat):FeOk Tryz.prog (fe201 (FX201 k)):=
 fe_ok EOK HM (es:=fun k=>fes201 (FX200 k) (FX221 k) (FX229 k)) (fun k=>fc ⟨ok200 k,fc ⟨ok221 k,fc ⟨ok229 k,fz⟩⟩⟩) (N:=60) (an:=an201) (c:=cd201) (rms:=rm201) (ask:=ask201) (rsk:=rsk201) (enc:=enc201) (dec:=dec201) (tbl:=[p201.getD 0 ⟨0,[], .skip⟩]) (fun s=>rfl) Tryz.func201 (by kernel_rfl) (by kernel_rfl) (by kernel_rfl) (fun k=>les201 (GX201l0 k))
  (fc ⟨fun s=>rfl,fz⟩) (fun k s0=> .cons (by kernel_rfl) (by kernel_rfl) (fun s r h=>(e201l0 (GX201l0 k) (FX200 k) (FX221 k) (FX229 k) s0 s).trans (b201l0 k s.1.1 s.1.2.1 s.2.1 s.2.2.1 r h)) (.nil))
  (F:=fun k s=>FX201 k s.1.1 s.1.2.1) (fun k s r h=>(e201 (GX201l0 k) (FX200 k) (FX221 k) (FX229 k) s).trans (b201 k s.1.1 s.1.2.1 r h)) k
theorem b160 (k:Nat) (x0:TI) (x1:TI):LeO (FX160 k x0 x1) (B160 (FX198 k) (FX199 k) (FX200 k) (FX201 k) x0 x1):=LeO.refl _
theorem ok160 (k:Nat):FeOk Tryz.prog (fe160 (FX160 k)):=
 fe_ok EOK HM (es:=fun k=>fes160 (FX198 k) (FX199 k) (FX200 k) (FX201 k)) (fun k=>fc ⟨ok198 k,fc ⟨ok199 k,fc ⟨ok200 k,fc ⟨ok201 k,fz⟩⟩⟩⟩) (N:=40) (an:=an160) (c:=cd160) (rms:=rm160) (ask:=ask160) (rsk:=rsk160) (enc:=enc160) (dec:=dec160) (tbl:=[]) (fun s=>rfl) Tryz.func160 (by kernel_rfl) (by kernel_rfl) (by kernel_rfl) (fun k=>les160)
  (fz) (fun k s0=> .nil)
  (F:=fun k s=>FX160 k s.1.1 s.1.2.1) (fun k s r h=>(e160 (FX198 k) (FX199 k) (FX200 k) (FX201 k) s).trans (b160 k s.1.1 s.1.2.1 r h)) k
theorem b202l0 (k:Nat) (x8:Int) (x5:(List Int)) (x6:(List Int)) (x7:(List Int)):LeO (GX202l0 (k+1) x8 x5 x6 x7) (B202l0 (GX202l1 k) (FX221 k) x8 x5 x6 x7):=by rw [GX202l0];exact LeO.refl _
theorem b202l1 (k:Nat) (x8:Int) (x9:Int) (x10:Int) (x5:(List Int)) (x6:(List Int)) (x7:(List Int)):LeO (GX202l1 (k+1) x8 x9 x10 x5 x6 x7) (B202l1 (GX202l0 k) (GX202l1 k) x8 x9 x10 x5 x6 x7):=by rw [GX202l1];exact LeO.refl _
theorem b202 (k:Nat) (x0:ByteArray) (x1:ByteArray):LeO (FX202 k x0 x1) (B202 (GX202l0 k) (FX229 k) x0 x1):=LeO.refl _
theorem ok202 (k:Nat):FeOk Tryz.prog (fe202 (FX202 k)):=
 fe_ok EOK HM (es:=fun k=>fes202 (FX221 k) (FX229 k)) (fun k=>fc ⟨ok221 k,fc ⟨ok229 k,fz⟩⟩) (N:=70) (an:=an202) (c:=cd202) (rms:=rm202) (ask:=ask202) (rsk:=rsk202) (enc:=enc202) (dec:=dec202) (tbl:=[p202.getD 0 ⟨0,[], .skip⟩,p202.getD 1 ⟨0,[], .skip⟩]) (fun s=>rfl) Tryz.func202 (by kernel_rfl) (by kernel_rfl) (by kernel_rfl) (fun k=>les202 (GX202l0 k) (GX202l1 k))
  (fc ⟨fun s=>rfl,fc ⟨fun s=>rfl,fz⟩⟩) (fun k s0=> .cons (by kernel_rfl) (by kernel_rfl) (fun s r h=>(e202l0 (GX202l0 k) (GX202l1 k) (FX221 k) (FX229 k) s0 s).trans (b202l0 k s.1.1 s.2.1 s.2.2.1 s.2.2.2.1 r h)) (.cons (by kernel_rfl) (by kernel_rfl) (fun s r h=>(e202l1 (GX202l0 k) (GX202l1 k) (FX221 k) (FX229 k) s0 s).trans (b202l1 k s.1.1 s.1.2.1 s.1.2.2.1 s.2.1 s.2.2.1 s.2.2.2.1 r h)) (.nil)))
  (F:=fun k s=>FX202 k s.1.1 s.1.2.1) (fun k s r h=>(e202 (GX202l0 k) (GX202l1 k) (FX221 k) (FX229 k) s).trans (b202 k s.1.1 s.1.2.1 r h)) k
theorem b161 (k:Nat) (x0:TI) (x1:TI):LeO (FX161 k x0 x1) (B161 (FX198 k) (FX202 k) x0 x1):=LeO.refl _
theorem ok161 (k:Nat):FeOk Tryz.prog (fe161 (FX161 k)):=
 fe_ok EOK HM (es:=fun k=>fes161 (FX198 k) (FX202 k)) (fun k=>fc ⟨ok198 k,fc ⟨ok202 k,fz⟩⟩) (N:=16) (an:=an161) (c:=cd161) (rms:=rm161) (ask:=ask161) (rsk:=rsk161) (enc:=enc161) (dec:=dec161) (tbl:=[]) (fun s=>rfl) Tryz.func161 (by kernel_rfl) (by kernel_rfl) (by kernel_rfl) (fun k=>les161)
  (fz) (fun k s0=> .nil)
  (F:=fun k s=>FX161 k s.1.1 s.1.2.1) (fun k s r h=>(e161 (FX198 k) (FX202 k) s).trans (b161 k s.1.1 s.1.2.1 r h)) k
theorem b162 (k:Nat) (x0:TQ):LeO (FX162 k x0) (B162 x0):=LeO.refl _
theorem ok162 (k:Nat):FeOk Tryz.prog (fe162 (FX162 k)):=
 fe_ok EOK HM (es:=fun k=>fes162) (fun k=>fz) (N:=6) (an:=an162) (c:=cd162) (rms:=rm162) (ask:=ask162) (rsk:=rsk162) (enc:=enc162) (dec:=dec162) (tbl:=[]) (fun s=>rfl) Tryz.func162 (by kernel_rfl) (by kernel_rfl) (by kernel_rfl) (fun k=>les162)
  (fz) (fun k s0=> .nil)
  (F:=fun k s=>FX162 k s.1.1) (fun k s r h=>(e162 s).trans (b162 k s.1.1 r h)) k
theorem b230l0 (k:Nat) (x0:Int) (x1:(List Int)) (x5:Int) (y0:(List Int)):LeO (GX230l0 (k+1) x0 x1 x5 y0) (B230l0 (GX230l0 k) x0 x1 x5 y0):=by rw [GX230l0];exact LeO.refl _
theorem b230 (k:Nat) (x1:(List Int)) (y0:(List Int)):LeO (FX230 k x1 y0) (B230 (GX230l0 k) (FX249 k) x1 y0):=LeO.refl _
theorem ok230 (k:Nat):FeOk Tryz.prog (fe230 (FX230 k)):=
 fe_ok EOK HM (es:=fun k=>fes230 (FX249 k)) (fun k=>fc ⟨ok249 k,fz⟩) (N:=43) (an:=an230) (c:=cd230) (rms:=rm230) (ask:=ask230) (rsk:=rsk230) (enc:=enc230) (dec:=dec230) (tbl:=[p230.getD 0 ⟨0,[], .skip⟩]) (fun s=>rfl) Tryz.func230 (by kernel_rfl) (by kernel_rfl) (by kernel_rfl) (fun k=>les230 (GX230l0 k))
  (fc ⟨fun s=>rfl,fz⟩) (fun k s0=> .cons (by kernel_rfl) (by kernel_rfl) (fun s r h=>(e230l0 (GX230l0 k) (FX249 k) s0 s).trans (b230l0 k s.1.1 s.1.2.1 s.1.2.2.1 s.2.1 r h)) (.nil))
  (F:=fun k s=>FX230 k s.1.1 s.2.1) (fun k s r h=>(e230 (GX230l0 k) (FX249 k) s).trans (b230 k s.1.1 s.2.1 r h)) k
theorem b203l0 (k:Nat) (x7:(List Int)) (x8:Int) (x11:Int) (x9:(List Int)) (x10:(List Int)):LeO (GX203l0 (k+1) x7 x8 x11 x9 x10) (B203l0 (GX203l1 k) (FX221 k) x7 x8 x11 x9 x10):=by rw [GX203l0];exact LeO.refl _
theorem b203l1 (k:Nat) (x7:(List Int)) (x8:Int) (x11:Int) (x9:(List Int)) (x10:(List Int)):LeO (GX203l1 (k+1) x7 x8 x11 x9 x10) (B203l1 (GX203l0 k) (GX203l2 k) (FX230 k) x7 x8 x11 x9 x10):=by rw [GX203l1];exact LeO.refl _
theorem b203l2 (k:Nat) (x7:(List Int)) (x8:Int) (x11:Int) (x12:Int) (x13:Int) (x14:Int) (x9:(List Int)) (x10:(List Int)):LeO (GX203l2 (k+1) x7 x8 x11 x12 x13 x14 x9 x10) (B203l2 (GX203l1 k) (GX203l2 k) x7 x8 x11 x12 x13 x14 x9 x10):=by rw [GX203l2];exact LeO.refl _
theorem b203 (k:Nat) (x0:ByteArray) (x1:ByteArray):LeO (FX203 k x0 x1) (B203 (GX203l0 k) (FX229 k) x0 x1):=LeO.refl _
theorem ok203 (k:Nat):FeOk Tryz.prog (fe203 (FX203 k)):=
 fe_ok EOK HM (es:=fun k=>fes203 (FX221 k) (FX229 k) (FX230 k)) (fun k=>fc ⟨ok221 k,fc ⟨ok229 k,fc ⟨ok230 k,fz⟩⟩⟩) (N:=148) (an:=an203) (c:=cd203) (rms:=rm203) (ask:=ask203) (rsk:=rsk203) (enc:=enc203) (dec:=dec203) (tbl:=[p203.getD 0 ⟨0,[], .skip⟩,p203.getD 1 ⟨0,[], .skip⟩,p203.getD 2 ⟨0,[], .skip⟩]) (fun s=>rfl) Tryz.func203 (by kernel_rfl) (by kernel_rfl) (by kernel_rfl) (fun k=>les203 (GX203l0 k) (GX203l1 k) (GX203l2 k))
  (fc ⟨fun s=>rfl,fc ⟨fun s=>rfl,fc ⟨fun s=>rfl,fz⟩⟩⟩) (fun k s0=> .cons (by kernel_rfl) (by kernel_rfl) (fun s r h=>(e203l0 (GX203l0 k) (GX203l1 k) (GX203l2 k) (FX221 k) (FX229 k) (FX230 k) s0 s).trans (b203l0 k s.1.1 s.1.2.1 s.1.2.2.1 s.2.1 s.2.2.1 r h)) (.cons (by kernel_rfl) (by kernel_rfl) (fun s r h=>(e203l1 (GX203l0 k) (GX203l1 k) (GX203l2 k) (FX221 k) (FX229 k) (FX230 k) s0 s).trans (b203l1 k s.1.1 s.1.2.1 s.1.2.2.1 s.2.1 s.2.2.1 r h)) (.cons (by kernel_rfl) (by kernel_rfl) (fun s r h=>(e203l2 (GX203l0 k) (GX203l1 k) (GX203l2 k) (FX221 k) (FX229 k) (FX230 k) s0 s).trans (b203l2 k s.1.1 s.1.2.1 s.1.2.2.1 s.1.2.2.2.1 s.1.2.2.2.2.1 s.1.2.2.2.2.2.1 s.2.1 s.2.2.1 r h)) (.nil))))
  (F:=fun k s=>FX203 k s.1.1 s.1.2.1) (fun k s r h=>(e203 (GX203l0 k) (GX203l1 k) (GX203l2 k) (FX221 k) (FX229 k) (FX230 k) s).trans (b203 k s.1.1 s.1.2.1 r h)) k
theorem b180l0 (k:Nat) (x0:ByteArray) (x1:ByteArray):LeO (GX180l0 (k+1) x0 x1) (B180l0 (GX180l0 k) (FX203 k) x0 x1):=by rw [GX180l0];exact LeO.refl _
theorem b180 (k:Nat) (x0:ByteArray) (x1:ByteArray):LeO (FX180 k x0 x1) (B180 (GX180l0 k) x0 x1):=LeO.refl _
theorem ok180 (k:Nat):FeOk Tryz.prog (fe180 (FX180 k)):=
 fe_ok EOK HM (es:=fun k=>fes180 (FX203 k)) (fun k=>fc ⟨ok203 k,fz⟩) (N:=18) (an:=an180) (c:=cd180) (rms:=rm180) (ask:=ask180) (rsk:=rsk180) (enc:=enc180) (dec:=dec180) (tbl:=[p180.getD 0 ⟨0,[], .skip⟩]) (fun s=>rfl) Tryz.func180 (by kernel_rfl) (by kernel_rfl) (by kernel_rfl) (fun k=>les180 (GX180l0 k))
  (fc ⟨fun s=>rfl,fz⟩) (fun k s0=> .cons (by kernel_rfl) (by kernel_rfl) (fun s r h=>(e180l0 (GX180l0 k) (FX203 k) s0 s).trans (b180l0 k s.1.1 s.1.2.1 r h)) (.nil))
  (F:=fun k s=>FX180 k s.1.1 s.1.2.1) (fun k s r h=>(e180 (GX180l0 k) (FX203 k) s).trans (b180 k s.1.1 s.1.2.1 r h)) k
theorem b163 (k:Nat) (x0:TI) (x1:TI):LeO (FX163 k x0 x1) (B163 (FX180 k) (FX198 k) (FX203 k) x0 x1):=LeO.refl _
theorem ok163 (k:Nat):FeOk Tryz.prog (fe163 (FX163 k)):=
 fe_ok EOK HM (es:=fun k=>fes163 (FX180 k) (FX198 k) (FX203 k)) (fun k=>fc ⟨ok180 k,fc ⟨ok198 k,fc ⟨ok203 k,fz⟩⟩⟩) (N:=42) (an:=an163) (c:=cd163) (rms:=rm163) (ask:=ask163) (rsk:=rsk163) (enc:=enc163) (dec:=dec163) (tbl:=[]) (fun s=>rfl) Tryz.func163 (by kernel_rfl) (by kernel_rfl) (by kernel_rfl) (fun k=>les163)
  (fz) (fun k s0=> .nil)
  (F:=fun k s=>FX163 k s.1.1 s.1.2.1) (fun k s r h=>(e163 (FX180 k) (FX198 k) (FX203 k) s).trans (b163 k s.1.1 s.1.2.1 r h)) k
theorem b101 (k:Nat) (x0:TQ) (x1:TQ):LeO (FX101 k x0 x1) (B101 (FX159 k) (FX160 k) (FX161 k) (FX162 k) (FX163 k) x0 x1):=LeO.refl _
theorem ok101 (k:Nat):FeOk Tryz.prog (fe101 (FX101 k)):=
 fe_ok EOK HM (es:=fun k=>fes101 (FX159 k) (FX160 k) (FX161 k) (FX162 k) (FX163 k)) (fun k=>fc ⟨ok159 k,fc ⟨ok160 k,fc ⟨ok161 k,fc ⟨ok162 k,fc ⟨ok163 k,fz⟩⟩⟩⟩⟩) (N:=38) (an:=an101) (c:=cd101) (rms:=rm101) (ask:=ask101) (rsk:=rsk101) (enc:=enc101) (dec:=dec101) (tbl:=[]) (fun s=>rfl) Tryz.func101 (by kernel_rfl) (by kernel_rfl) (by kernel_rfl) (fun k=>les101)
  (fz) (fun k s0=> .nil)
  (F:=fun k s=>FX101 k s.1.1 s.1.2.1) (fun k s r h=>(e101 (FX159 k) (FX160 k) (FX161 k) (FX162 k) (FX163 k) s).trans (b101 k s.1.1 s.1.2.1 r h)) k
theorem b102 (k:Nat) (x0:(List TQ)) (x1:Int):LeO (FX102 k x0 x1) (B102 (FX81 k) x0 x1):=LeO.refl _
theorem ok102 (k:Nat):FeOk Tryz.prog (fe102 (FX102 k)):=
 fe_ok EOK HM (es:=fun k=>fes102 (FX81 k)) (fun k=>fc ⟨ok81 k,fz⟩) (N:=14) (an:=an102) (c:=cd102) (rms:=rm102) (ask:=ask102) (rsk:=rsk102) (enc:=enc102) (dec:=dec102) (tbl:=[]) (fun s=>rfl) Tryz.func102 (by kernel_rfl) (by kernel_rfl) (by kernel_rfl) (fun k=>les102)
  (fz) (fun k s0=> .nil)
  (F:=fun k s=>FX102 k s.1.1 s.1.2.1) (fun k s r h=>(e102 (FX81 k) s).trans (b102 k s.1.1 s.1.2.1 r h)) k
theorem b20l0 (k:Nat) (x0:(List TQ)) (x1:(List TQ)) (x6:Int) (x5:(List TQ)):LeO (GX20l0 (k+1) x0 x1 x6 x5) (B20l0 (GX20l0 k) (FX48 k) (FX101 k) (FX102 k) x0 x1 x6 x5):=by rw [GX20l0];exact LeO.refl _
theorem b20 (k:Nat) (x0:(List TQ)) (x1:(List TQ)):LeO (FX20 k x0 x1) (B20 (GX20l0 k) x0 x1):=LeO.refl _
theorem ok20 (k:Nat):FeOk Tryz.prog (fe20 (FX20 k)):=
 fe_ok EOK HM (es:=fun k=>fes20 (FX48 k) (FX101 k) (FX102 k)) (fun k=>fc ⟨ok48 k,fc ⟨ok101 k,fc ⟨ok102 k,fz⟩⟩⟩) (N:=28) (an:=an20) (c:=cd20) (rms:=rm20) (ask:=ask20) (rsk:=rsk20) (enc:=enc20) (dec:=dec20) (tbl:=[p20.getD 0 ⟨0,[], .skip⟩]) (fun s=>rfl) Tryz.func20 (by kernel_rfl) (by kernel_rfl) (by kernel_rfl) (fun k=>les20 (GX20l0 k))
  (fc ⟨fun s=>rfl,fz⟩) (fun k s0=> .cons (by kernel_rfl) (by kernel_rfl) (fun s r h=>(e20l0 (GX20l0 k) (FX48 k) (FX101 k) (FX102 k) s0 s).trans (b20l0 k s.1.1 s.1.2.1 s.1.2.2.1 s.2.1 r h)) (.nil))
  (F:=fun k s=>FX20 k s.1.1 s.1.2.1) (fun k s r h=>(e20 (GX20l0 k) (FX48 k) (FX101 k) (FX102 k) s).trans (b20 k s.1.1 s.1.2.1 r h)) k
theorem b21l0 (k:Nat) (x1:Int) (x6:Int) (x2:TQ) (x5:(List TQ)):LeO (GX21l0 (k+1) x1 x6 x2 x5) (B21l0 (GX21l0 k) (FX48 k) (FX81 k) x1 x6 x2 x5):=by rw [GX21l0];exact LeO.refl _
theorem b21 (k:Nat) (x0:TQ) (x1:Int):LeO (FX21 k x0 x1) (B21 (GX21l0 k) x0 x1):=LeO.refl _
theorem ok21 (k:Nat):FeOk Tryz.prog (fe21 (FX21 k)):=
 fe_ok EOK HM (es:=fun k=>fes21 (FX48 k) (FX81 k)) (fun k=>fc ⟨ok48 k,fc ⟨ok81 k,fz⟩⟩) (N:=21) (an:=an21) (c:=cd21) (rms:=rm21) (ask:=ask21) (rsk:=rsk21) (enc:=enc21) (dec:=dec21) (tbl:=[p21.getD 0 ⟨0,[], .skip⟩]) (fun s=>rfl) Tryz.func21 (by kernel_rfl) (by kernel_rfl) (by kernel_rfl) (fun k=>les21 (GX21l0 k))
  (fc ⟨fun s=>rfl,fz⟩) (fun k s0=> .cons (by kernel_rfl) (by kernel_rfl) (fun s r h=>(e21l0 (GX21l0 k) (FX48 k) (FX81 k) s0 s).trans (b21l0 k s.1.1 s.1.2.1 s.2.1 s.2.2.1 r h)) (.nil))
  (F:=fun k s=>FX21 k s.1.1 s.1.2.1) (fun k s r h=>(e21 (GX21l0 k) (FX48 k) (FX81 k) s).trans (b21 k s.1.1 s.1.2.1 r h)) k
theorem b103 (k:Nat) (x0:(List (List TQ))) (x1:Int):LeO (FX103 k x0 x1) (B103 x0 x1):=LeO.refl _
theorem ok103 (k:Nat):FeOk Tryz.prog (fe103 (FX103 k)):=
 fe_ok EOK HM (es:=fun k=>fes103) (fun k=>fz) (N:=13) (an:=an103) (c:=cd103) (rms:=rm103) (ask:=ask103) (rsk:=rsk103) (enc:=enc103) (dec:=dec103) (tbl:=[]) (fun s=>rfl) Tryz.func103 (by kernel_rfl) (by kernel_rfl) (by kernel_rfl) (fun k=>les103)
  (fz) (fun k s0=> .nil)
  (F:=fun k s=>FX103 k s.1.1 s.1.2.1) (fun k s r h=>(e103 s).trans (b103 k s.1.1 s.1.2.1 r h)) k
theorem b104l0 (k:Nat) (x0:(List (List TQ))) (x3:Int):LeO (GX104l0 (k+1) x0 x3) (B104l0 (GX104l0 k) x0 x3):=by rw [GX104l0];exact LeO.refl _
theorem b104 (k:Nat) (x0:(List (List TQ))):LeO (FX104 k x0) (B104 (GX104l0 k) x0):=LeO.refl _
theorem ok104 (k:Nat):FeOk Tryz.prog (fe104 (FX104 k)):=
 fe_ok EOK HM (es:=fun k=>fes104) (fun k=>fz) (N:=24) (an:=an104) (c:=cd104) (rms:=rm104) (ask:=ask104) (rsk:=rsk104) (enc:=enc104) (dec:=dec104) (tbl:=[p104.getD 0 ⟨0,[], .skip⟩]) (fun s=>rfl) Tryz.func104 (by kernel_rfl) (by kernel_rfl) (by kernel_rfl) (fun k=>les104 (GX104l0 k))
  (fc ⟨fun s=>rfl,fz⟩) (fun k s0=> .cons (by kernel_rfl) (by kernel_rfl) (fun s r h=>(e104l0 (GX104l0 k) s0 s).trans (b104l0 k s.1.1 s.1.2.1 r h)) (.nil))
  (F:=fun k s=>FX104 k s.1.1) (fun k s r h=>(e104 (GX104l0 k) s).trans (b104 k s.1.1 r h)) k
theorem b23l0 (k:Nat) (x0:(List (List TQ))) (x1:(List (List TQ))) (x6:Int) (x5:(List (List TQ))):LeO (GX23l0 (k+1) x0 x1 x6 x5) (B23l0 (GX23l0 k) (FX20 k) (FX103 k) (FX104 k) x0 x1 x6 x5):=by rw [GX23l0];exact LeO.refl _
theorem b23 (k:Nat) (x0:(List (List TQ))) (x1:(List (List TQ))):LeO (FX23 k x0 x1) (B23 (GX23l0 k) x0 x1):=LeO.refl _
theorem ok23 (k:Nat):FeOk Tryz.prog (fe23 (FX23 k)):=
 fe_ok EOK HM (es:=fun k=>fes23 (FX20 k) (FX103 k) (FX104 k)) (fun k=>fc ⟨ok20 k,fc ⟨ok103 k,fc ⟨ok104 k,fz⟩⟩⟩) (N:=28) (an:=an23) (c:=cd23) (rms:=rm23) (ask:=ask23) (rsk:=rsk23) (enc:=enc23) (dec:=dec23) (tbl:=[p23.getD 0 ⟨0,[], .skip⟩]) (fun s=>rfl) Tryz.func23 (by kernel_rfl) (by kernel_rfl) (by kernel_rfl) (fun k=>les23 (GX23l0 k))
  (fc ⟨fun s=>rfl,fz⟩) (fun k s0=> .cons (by kernel_rfl) (by kernel_rfl) (fun s r h=>(e23l0 (GX23l0 k) (FX20 k) (FX103 k) (FX104 k) s0 s).trans (b23l0 k s.1.1 s.1.2.1 s.1.2.2.1 s.2.1 r h)) (.nil))
  (F:=fun k s=>FX23 k s.1.1 s.1.2.1) (fun k s r h=>(e23 (GX23l0 k) (FX20 k) (FX103 k) (FX104 k) s).trans (b23 k s.1.1 s.1.2.1 r h)) k
theorem b24l0 (k:Nat) (x0:(List TQ)) (x1:Int) (x6:Int) (x5:(List (List TQ))):LeO (GX24l0 (k+1) x0 x1 x6 x5) (B24l0 (GX24l0 k) (FX104 k) x0 x1 x6 x5):=by rw [GX24l0];exact LeO.refl _
theorem b24 (k:Nat) (x0:(List TQ)) (x1:Int):LeO (FX24 k x0 x1) (B24 (GX24l0 k) x0 x1):=LeO.refl _
theorem ok24 (k:Nat):FeOk Tryz.prog (fe24 (FX24 k)):=
 fe_ok EOK HM (es:=fun k=>fes24 (FX104 k)) (fun k=>fc ⟨ok104 k,fz⟩) (N:=20) (an:=an24) (c:=cd24) (rms:=rm24) (ask:=ask24) (rsk:=rsk24) (enc:=enc24) (dec:=dec24) (tbl:=[p24.getD 0 ⟨0,[], .skip⟩]) (fun s=>rfl) Tryz.func24 (by kernel_rfl) (by kernel_rfl) (by kernel_rfl) (fun k=>les24 (GX24l0 k))
  (fc ⟨fun s=>rfl,fz⟩) (fun k s0=> .cons (by kernel_rfl) (by kernel_rfl) (fun s r h=>(e24l0 (GX24l0 k) (FX104 k) s0 s).trans (b24l0 k s.1.1 s.1.2.1 s.1.2.2.1 s.2.1 r h)) (.nil))
  (F:=fun k s=>FX24 k s.1.1 s.1.2.1) (fun k s r h=>(e24 (GX24l0 k) (FX104 k) s).trans (b24 k s.1.1 s.1.2.1 r h)) k
theorem b118 (k:Nat) (x0:TQ) (x1:TQ):LeO (FX118 k x0 x1) (B118 (FX159 k) (FX161 k) (FX162 k) (FX163 k) x0 x1):=LeO.refl _
theorem ok118 (k:Nat):FeOk Tryz.prog (fe118 (FX118 k)):=
 fe_ok EOK HM (es:=fun k=>fes118 (FX159 k) (FX161 k) (FX162 k) (FX163 k)) (fun k=>fc ⟨ok159 k,fc ⟨ok161 k,fc ⟨ok162 k,fc ⟨ok163 k,fz⟩⟩⟩⟩) (N:=30) (an:=an118) (c:=cd118) (rms:=rm118) (ask:=ask118) (rsk:=rsk118) (enc:=enc118) (dec:=dec118) (tbl:=[]) (fun s=>rfl) Tryz.func118 (by kernel_rfl) (by kernel_rfl) (by kernel_rfl) (fun k=>les118)
  (fz) (fun k s0=> .nil)
  (F:=fun k s=>FX118 k s.1.1 s.1.2.1) (fun k s r h=>(e118 (FX159 k) (FX161 k) (FX162 k) (FX163 k) s).trans (b118 k s.1.1 s.1.2.1 r h)) k
theorem b45l0 (k:Nat) (x0:(List TQ)) (x1:(List TQ)) (x6:Int) (x5:(List TQ)):LeO (GX45l0 (k+1) x0 x1 x6 x5) (B45l0 (GX45l1 k) (FX48 k) (FX81 k) x0 x1 x6 x5):=by rw [GX45l0];exact LeO.refl _
theorem b45l1 (k:Nat) (x0:(List TQ)) (x1:(List TQ)) (x6:Int) (x21:Int) (x22:Int) (x5:(List TQ)) (x7:TQ):LeO (GX45l1 (k+1) x0 x1 x6 x21 x22 x5 x7) (B45l1 (GX45l0 k) (GX45l1 k) (FX101 k) (FX118 k) x0 x1 x6 x21 x22 x5 x7):=by rw [GX45l1];exact LeO.refl _
theorem b45 (k:Nat) (x0:(List TQ)) (x1:(List TQ)):LeO (FX45 k x0 x1) (B45 (GX45l0 k) x0 x1):=LeO.refl _
theorem ok45 (k:Nat):FeOk Tryz.prog (fe45 (FX45 k)):=
 fe_ok EOK HM (es:=fun k=>fes45 (FX48 k) (FX81 k) (FX101 k) (FX118 k)) (fun k=>fc ⟨ok48 k,fc ⟨ok81 k,fc ⟨ok101 k,fc ⟨ok118 k,fz⟩⟩⟩⟩) (N:=57) (an:=an45) (c:=cd45) (rms:=rm45) (ask:=ask45) (rsk:=rsk45) (enc:=enc45) (dec:=dec45) (tbl:=[p45.getD 0 ⟨0,[], .skip⟩,p45.getD 1 ⟨0,[], .skip⟩]) (fun s=>rfl) Tryz.func45 (by kernel_rfl) (by kernel_rfl) (by kernel_rfl) (fun k=>les45 (GX45l0 k) (GX45l1 k))
  (fc ⟨fun s=>rfl,fc ⟨fun s=>rfl,fz⟩⟩) (fun k s0=> .cons (by kernel_rfl) (by kernel_rfl) (fun s r h=>(e45l0 (GX45l0 k) (GX45l1 k) (FX48 k) (FX81 k) (FX101 k) (FX118 k) s0 s).trans (b45l0 k s.1.1 s.1.2.1 s.1.2.2.1 s.2.1 r h)) (.cons (by kernel_rfl) (by kernel_rfl) (fun s r h=>(e45l1 (GX45l0 k) (GX45l1 k) (FX48 k) (FX81 k) (FX101 k) (FX118 k) s0 s).trans (b45l1 k s.1.1 s.1.2.1 s.1.2.2.1 s.1.2.2.2.1 s.1.2.2.2.2.1 s.2.1 s.2.2.1 r h)) (.nil)))
  (F:=fun k s=>FX45 k s.1.1 s.1.2.1) (fun k s r h=>(e45 (GX45l0 k) (GX45l1 k) (FX48 k) (FX81 k) (FX101 k) (FX118 k) s).trans (b45 k s.1.1 s.1.2.1 r h)) k
theorem b25l0 (k:Nat) (x0:(List TQ)) (x1:Int) (x5:(List TQ)) (x6:Int):LeO (GX25l0 (k+1) x0 x1 x5 x6) (B25l0 (GX25l0 k) (FX45 k) x0 x1 x5 x6):=by rw [GX25l0];exact LeO.refl _
theorem b25 (k:Nat) (x0:(List TQ)) (x1:Int):LeO (FX25 k x0 x1) (B25 (GX25l0 k) (FX22 k) x0 x1):=LeO.refl _
theorem ok25 (k:Nat):FeOk Tryz.prog (fe25 (FX25 k)):=
 fe_ok EOK HM (es:=fun k=>fes25 (FX22 k) (FX45 k)) (fun k=>fc ⟨ok22 k,fc ⟨ok45 k,fz⟩⟩) (N:=18) (an:=an25) (c:=cd25) (rms:=rm25) (ask:=ask25) (rsk:=rsk25) (enc:=enc25) (dec:=dec25) (tbl:=[p25.getD 0 ⟨0,[], .skip⟩]) (fun s=>rfl) Tryz.func25 (by kernel_rfl) (by kernel_rfl) (by kernel_rfl) (fun k=>les25 (GX25l0 k))
  (fc ⟨fun s=>rfl,fz⟩) (fun k s0=> .cons (by kernel_rfl) (by kernel_rfl) (fun s r h=>(e25l0 (GX25l0 k) (FX22 k) (FX45 k) s0 s).trans (b25l0 k s.1.1 s.1.2.1 s.1.2.2.1 s.1.2.2.2.1 r h)) (.nil))
  (F:=fun k s=>FX25 k s.1.1 s.1.2.1) (fun k s r h=>(e25 (GX25l0 k) (FX22 k) (FX45 k) s).trans (b25 k s.1.1 s.1.2.1 r h)) k
end Go.Proofs.YtijohnkgomcdbaaGreatV
namespace Go.Proofs.YtijohnkgomcdbaaGreatE
open Go.RowKit
theorem calls_of_ct {P:Program} {f:Nat} {fn:Func} {c:Code} (hf:P.funcs[f]?=some fn) (hname:(fn.name== "runtime.NumGoroutine")=false) (hb:fn.body=some c) {asx:List V} {r:V} {us:Bl} (h:Ct P f asx [] r us) {vs:List Value}
  (hv:∀w bl φ,RepVs w bl φ asx vs) (hr:∀w bl φ v,RepV w bl φ r v→v= .bool true) (w:World):Calls P f vs.toArray w fun e w'=>e= .returned (.bool true)∧Below w.heap.size w w':=by
 have hm:Mem w (lentBo [] (fun _=>⟨0,0,some 0⟩)) (fun _=> .fresh) (fun _=>⟨0,0,some 0⟩) w:=
  ⟨fun n=>trivial,(fun n m h=>by obtain⟨_,_,_,e⟩:=h;cases e),(fun n t l tl _ h=>by cases h),Frame'.refl _ _⟩
 rcases h.2 w (fun _=> .fresh) (fun _=>⟨0,0,some 0⟩) vs (fun n _=>rfl) hm (hv _ _ _)with⟨_,h1⟩| ⟨v,w',h1,_⟩
 ·refine h1.mono fun e w'=>?_
  rintro⟨v,rfl,φ',st,rv⟩
  have fr:=st.mem.fr
  refine⟨by rw [hr _ _ _ _ rv],fr.os,fr.tape,fr.output,fr.size,fun b hb=>fr.block b hb fun o h=>?_⟩
  obtain⟨n,t,l,tl,_,e,_⟩:=h
  cases e
 ·exfalso
  have e:(callFunc f vs.toArray).run P w= .ok (.enter f vs.toArray) w:=by simp only [callFunc,Sem.run_bind,run_program,Result.andThen_ok,hf,hname,hb,Option.isNone_some,Bool.false_eq_true,if_false,Sem.run_pure]
  rw [e]at h1;cases h1
theorem below_frame {w w':World} (h:Below w.heap.size w w'):Frame' w w' (fun _ _=>False):=by
 have hb:∀b,b<w.heap.size→w'.heap[b]?=w.heap[b]?:=h.block
 have hc:∀b o,b<w.heap.size→w'.cell? ⟨b,o,none⟩=w.cell? ⟨b,o,none⟩:=fun b o hl=>by unfold World.cell?;rw [hb b hl]
 exact⟨h.os,h.tape,h.output,h.size,fun b hl _=>hb b hl,fun b o hl _=>hc b o hl,fun b o hs=>by
  have hl:b<w.heap.size:=by
   obtain⟨v,hv⟩:=Option.isSome_iff_exists.1 hs
   exact cell_lt hv
  rw [hc b o hl];exact hs,fun b o hl=>by unfold World.frozen?;rw [hb b hl]⟩
theorem S_below {w0 w w':World} {Bo:Nat→Nat→Prop} {bl:Nat→Blk} {φ:Nat→Addr} (m:Mem w0 Bo bl φ w) (h:Below w.heap.size w w'):Step w0 Bo bl φ w bl φ w':=
 S_gen m (fun _=>False) (fun _ _=>⟨rfl,rfl⟩) (fun _ h=>h.elim) ((below_frame h).ext (fun _ _ _ h=>h.elim) fun _ _ h=>h) (fun n _ hl hs o v hv=>((below_frame h).cell _ _ (cell_lt hv) id).trans hv) (fun _ h=>h.elim) (fun _ _ h=>h.elim) (fun _ _ _ _ h=>h.elim) (m.fr.trans (below_frame h) fun _ _ _ h=>h.elim)
section
variable {w:World} {bl:Nat→Blk} {φ:Nat→Addr}
theorem rep_int {k:IntKind} {x:Int}:RepV w bl φ (.a (.v (.it k) x)) (.int k x):=⟨[.int k x],rfl,rfl⟩
theorem rep_true {v:Value} (h:RepV w bl φ (.a (.v .bo true)) v):v= .bool true:=by
 obtain⟨cs,h1,h2⟩:=h
 have h1:cs=[.bool true]:=h1
 subst h1
 have h2:[Value.bool true]=[v]:=h2
 cases h2;rfl
end
end Go.Proofs.YtijohnkgomcdbaaGreatE
set_option maxRecDepth 100000
namespace Go.Proofs.YtijohnkgomcdbaaGreatV
open Go Go.RowKit YtijohnkgomcdbaaGreat YtijohnkgomcdbaaGreatE YtijohnkgomcdbaaGreatW.PrintWords YtijohnkgomcdbaaGreatW.PrintLast YtijohnkgomcdbaaGreatW.PrintMore
noncomputable abbrev FX4 (k:Nat) (x0:Int) (x1:Int):Option R4:=B4 (FX16 k) (FX17 k) (FX18 k) (FX20 k) (FX21 k) (FX22 k) (FX23 k) (FX24 k) (FX25 k) x0 x1
theorem b4 (k:Nat) (x0:Int) (x1:Int):LeO (FX4 k x0 x1) (B4 (FX16 k) (FX17 k) (FX18 k) (FX20 k) (FX21 k) (FX22 k) (FX23 k) (FX24 k) (FX25 k) x0 x1):=LeO.refl _
theorem ok4 (k:Nat):FeOk Tryz.prog (fe4 (FX4 k)):=
 fe_ok EOK HM (es:=fun k=>fes4 (FX16 k) (FX17 k) (FX18 k) (FX20 k) (FX21 k) (FX22 k) (FX23 k) (FX24 k) (FX25 k)) (fun k=>fc ⟨ok16 k,fc ⟨ok17 k,fc ⟨ok18 k,fc ⟨ok20 k,fc ⟨ok21 k,fc ⟨ok22 k,fc ⟨ok23 k,fc ⟨ok24 k,fc ⟨ok25 k,List.forall_mem_nil _⟩⟩⟩⟩⟩⟩⟩⟩⟩) (N:=94) (an:=an4) (c:=cd4) (f:=4) (fn:=Tryz.f4) (rms:=rm4) (ask:=ask4) (rsk:=rsk4) (enc:=enc4) (dec:=dec4) (tbl:=[]) (fun s=>rfl) Tryz.func4 (by kernel_rfl) (by kernel_rfl) (by kernel_rfl) (fun k=>les4)
  (List.forall_mem_nil _) (fun k s0=> .nil)
  (F:=fun k s=>FX4 k s.1.1 s.1.2.1) (fun k s r h=>(e4 (FX16 k) (FX17 k) (FX18 k) (FX20 k) (FX21 k) (FX22 k) (FX23 k) (FX24 k) (FX25 k) s).trans (b4 k s.1.1 s.1.2.1 r h)) k
theorem calls4 (a:Int) (b:Int) (h:∃k,FX4 k a b=some true) (w:World):
  Calls Tryz.prog 4 #[.int .i64 a, .int .i64 b] w fun e w'=>e= .returned (.bool true)∧Below w.heap.size w w':=by
 obtain⟨k,hk⟩:=h
 have hc:=ok4 k ((a,(b,())),()) true hk (.a (.v .bo true)) rfl
 exact calls_of_ct (vs:=[.int .i64 a, .int .i64 b]) Tryz.func4 (by kernel_rfl) (c:=cd4) (by kernel_rfl) hc (fun w bl φ=> .cons rep_int (.cons rep_int (.nil))) (fun w bl φ v h=>rep_true h) w
end Go.Proofs.YtijohnkgomcdbaaGreatV
set_option maxRecDepth 100000
namespace Go.Proofs.YtijohnkgomcdbaaGreatV
open Go Go.RowKit Go.Proofs.YtijohnkgomcdbaaGreat Go.Proofs.YtijohnkgomcdbaaGreatE Go.Proofs.YtijohnkgomcdbaaGreatW.PrintWords Go.Proofs.YtijohnkgomcdbaaGreatW.PrintLast Go.Proofs.YtijohnkgomcdbaaGreatW.PrintMore
abbrev RT:=((Bool×ByteArray)×ByteArray)
abbrev d0:RT:=((false,(⟨#[]⟩:ByteArray)),(⟨#[]⟩:ByteArray))
theorem ev_pos {β:Type} {c:Prop} [Decidable c] {a b:Nat→Option β} {r:β} (h:c) (k:Ev a r):Ev (fun n=>if c then a n else b n) r:=Ev.congr (fun n=>if_pos h) k
theorem ev_neg {β:Type} {c:Prop} [Decidable c] {a b:Nat→Option β} {r:β} (h:¬c) (k:Ev b r):Ev (fun n=>if c then a n else b n) r:=Ev.congr (fun n=>if_neg h) k
theorem w64_ {x:Int} (h1: -9223372036854775808≤x) (h2:x<9223372036854775808):wrap64 x=x:=by unfold wrap64;omega
def i1:RT:=((false,⟨#[1]⟩),⟨#[1]⟩)
def i0:RT:=((false,⟨#[]⟩),⟨#[1]⟩)
def m2:RT:=((true,⟨#[2]⟩),⟨#[1]⟩)
def mo (n:Nat):List RT:=List.replicate n i0++[i1]
def kz (n:Nat):List RT:=m2::(List.replicate (n-1) i0++[i1])
def fm (d:Nat):List (List RT):=List.replicate d []++[[i1]]
def fz (d:Nat):List (List RT):=[i1]::(List.replicate (d-1) []++[[i1]])
def eqRT (a b:RT):Bool:=a.1.1==b.1.1&&eqS a.1.2 b.1.2&&eqS a.2 b.2
theorem eqS_eq {a b:ByteArray} (h:eqS a b=true):a=b:=by
  unfold eqS at h
  rw [beq_iff_eq]at h
  cases a;cases b
  simp only [ByteArray.mk.injEq]
  exact Array.toList_inj.1 h
theorem eqRT_eq {a b:RT} (h:eqRT a b=true):a=b:=by
  unfold eqRT at h
  simp only [Bool.and_eq_true,beq_iff_eq]at h
  obtain⟨⟨h1,h2⟩,h3⟩:=h
  obtain⟨⟨a1,a2⟩,a3⟩:=a
  obtain⟨⟨b1,b2⟩,b3⟩:=b
  simp only at h1 h2 h3
  rw [h1,eqS_eq h2,eqS_eq h3]
def eqA {α:Type} (f:α→α→Bool):List α→List α→Bool
  | [],[]=>true
  |a::l,b::m=>f a b&&eqA f l m
  |_,_=>false
theorem eqA_eq {α:Type} {f:α→α→Bool} (hf:∀a b,f a b=true→a=b):∀{l m:List α},eqA f l m=true→l=m
  | [],[],_=>rfl
  | a::l,b::m,h=>by
    unfold eqA at h
    rw [Bool.and_eq_true]at h
    rw [hf a b h.1,eqA_eq hf h.2]
  | [],_::_,h=>by cases h
  |_::_,[],h=>by cases h
def isL (x:Option (List RT)) (c:List RT):Bool:=match x with|some r=>eqA eqRT r c|none=>false
def isF (x:Option (List (List RT))) (c:List (List RT)):Bool:=match x with|some r=>eqA (eqA eqRT) r c|none=>false
def isI (x:Option Int) (c:Int):Bool:=match x with|some r=>decide (r=c)|none=>false
def isT (x:Option Bool):Bool:=match x with|some true=>true|_=>false
theorem isL_eq {x:Option (List RT)} {c:List RT} (h:isL x c=true):x=some c:=by
  unfold isL at h;split at h
  · rw [eqA_eq (fun a b=>eqRT_eq) h]
  · cases h
theorem isF_eq {x:Option (List (List RT))} {c:List (List RT)} (h:isF x c=true):x=some c:=by
  unfold isF at h;split at h
  · rw [eqA_eq (fun a b=>eqA_eq (fun a b=>eqRT_eq)) h]
  · cases h
theorem isI_eq {x:Option Int} {c:Int} (h:isI x c=true):x=some c:=by
  unfold isI at h;split at h
  · rw [of_decide_eq_true h]
  · cases h
theorem isT_eq {x:Option Bool} (h:isT x=true):x=some true:=by
  unfold isT at h;split at h
  · rfl
  · cases h
def upTo (p:Nat→Bool):Nat→Bool
  |0=>true
  |n+1=>upTo p n&&p (n+1)
theorem upTo_at {p:Nat→Bool}:∀{N:Nat},upTo p N=true→∀n,1≤n→n≤N→p n=true
  |0,_,n,h1,h2=>by omega
  | N+1,h,n,h1,h2=>by
    unfold upTo at h
    rw [Bool.and_eq_true]at h
    by_cases e:n=N+1
    · subst e;exact h.2
    · exact upTo_at h.1 n h1 (by omega)
theorem f22a:isL (FX22 100 [1]) [i1]=true:=by decide +kernel
theorem f22b:isL (FX22 100 [-2]) [m2]=true:=by decide +kernel
theorem f21:upTo (fun n=>isL (FX21 100 i1 (n:Int)) (mo n)) 24=true:=by decide +kernel
theorem f20:upTo (fun n=>isL (FX20 100 (mo n) [m2]) (kz n)) 24=true:=by decide +kernel
theorem f24:upTo (fun d=>isF (FX24 200 [i1] (d:Int)) (fm d)) 64=true:=by decide +kernel
theorem f23:upTo (fun d=>isF (FX23 200 (fm d) [[i1]]) (fz d)) 64=true:=by decide +kernel
theorem f119:upTo (fun n=>isI (FX119 200 (kz n)) 0) 24=true:=by decide +kernel
theorem f120a:isI (FX120 100 []) 0=true:=by decide +kernel
theorem f120b:isI (FX120 100 [i1]) 0=true:=by decide +kernel
theorem rd_mem {α:Type} {d:α} {l:List α} {i:Nat} (h:i<l.length):rdOf d l (i:Int)∈l:=by
  unfold rdOf;rw [Int.toNat_natCast,List.getD_eq_getElem?_getD,List.getElem?_eq_getElem h];exact List.getElem_mem h
theorem checkl_ (K:List RT) (f:List (List RT)) (h:∀a∈f,Ev (fun k=>FX124 k K a) 0) (hl:f.length≤65) (h0:0<f.length) (hne:(rdOf ([]:List RT) f ((f.length-1:Nat):Int)).length≠0):
    ∀(m i:Nat),i+m=f.length→Ev (fun k=>GX138l0 k f f (f.length:Int) (i:Int) K) 0
  | 0,i,hi=>by
    refine Ev.step (f:=fun k=>B138l0 (GX138l0 k) (FX124 k) _ _ _ _ _) (fun k=>rfl) ?_
    unfold B138l0
    have e:wrap64 ((f.length:Int)-1)=((f.length-1:Nat):Int):=by rw [w64_ (by omega) (by omega)];omega
    rw [e]
    exact ev_neg (by omega) (ev_pos (by omega) (ev_pos (by omega) (ev_pos (by omega) (ev_neg (by omega) (Ev.now _)))))
  | m+1,i,hi=>by
    refine Ev.step (f:=fun k=>B138l0 (GX138l0 k) (FX124 k) _ _ _ _ _) (fun k=>rfl) ?_
    unfold B138l0
    have e:wrap64 ((i:Int)+1)=((i+1:Nat):Int):=by rw [w64_ (by omega) (by omega)];omega
    rw [e]
    exact ev_pos (by omega) (ev_pos (by omega) (ev_pos (by omega) (Ev.bind (h _ (rd_mem (by omega))) (ev_neg (fun h=>h rfl) (checkl_ K f h hl h0 hne m (i+1) (by omega))))))
theorem check_ (K:List RT) (f:List (List RT)) (h:∀a∈f,Ev (fun k=>FX124 k K a) 0) (hl:f.length≤65) (h0:0<f.length) (hne:(rdOf ([]:List RT) f ((f.length-1:Nat):Int)).length≠0):
    Ev (fun k=>FX138 k K f) 0:=by
  show Ev (fun k=>B138 (GX138l0 k) _ _) _
  unfold B138
  exact ev_neg (by omega) (checkl_ K f h hl h0 hne f.length 0 (by omega))
theorem kz_len {n:Nat} (h:1≤n):(kz n).length=n+1:=by
  unfold kz;simp only [List.length_cons,List.length_append,List.length_replicate,List.length_nil];omega
theorem fz_len {d:Nat} (h:1≤d):(fz d).length=d+1:=by
  unfold fz;simp only [List.length_cons,List.length_append,List.length_replicate,List.length_nil];omega
theorem fz_last {d:Nat} (h:1≤d):rdOf ([]:List RT) (fz d) (((fz d).length-1:Nat):Int)=[i1]:=by
  rw [fz_len h];unfold rdOf fz
  have e:d+1-1=(d-1)+1:=by omega
  rw [Int.toNat_natCast,e,List.getD_cons_succ,List.getD_eq_getElem?_getD,List.getElem?_append_right (by simp)]
  simp
theorem fz_mem {d:Nat} {a:List RT} (h:a∈fz d):a=[]∨a=[i1]:=by
  unfold fz at h
  simp only [List.mem_cons,List.mem_append,List.mem_replicate,List.not_mem_nil,or_false]at h
  rcases h with h| ⟨_,h⟩|h<;>simp [h]
section
variable {n d:Nat} (hn:1≤n) (hn2:n≤24) (hd:1≤d) (hd2:d≤64)
include hn
theorem elem_ {a:List RT} (h:a=[]∨a=[i1]):Ev (fun k=>FX124 k (kz n) a) 0:=by
  show Ev (fun k=>B124 (FX120 k) _ _) _
  unfold B124
  rcases h with rfl|rfl
  · exact Ev.bind (Ev.of (fun k=>m120 k _) (isI_eq f120a)) (ev_neg (fun h=>h rfl) (ev_neg (by rw [kz_len hn];simp) (Ev.now _)))
  · exact Ev.bind (Ev.of (fun k=>m120 k _) (isI_eq f120b)) (ev_neg (fun h=>h rfl) (ev_neg (by rw [kz_len hn];simp;omega) (Ev.now _)))
include hd hd2
theorem firstl_:Ev (fun k=>GX83l0 k [fz d] 1 0 (kz n)) 0:=by
  refine Ev.step (f:=fun k=>B83l0 (GX83l0 k) (FX138 k) _ _ _ _) (fun k=>rfl) ?_
  unfold B83l0
  refine ev_pos (by decide) (ev_pos (by decide) (ev_pos (by simp) (Ev.bind (check_ (kz n) (fz d) (fun a ha=>elem_ hn (fz_mem ha)) (by rw [fz_len hd];omega) (by rw [fz_len hd];omega) (by rw [fz_last hd];decide)) (ev_neg (fun h=>h rfl) ?_))))
  refine Ev.step (f:=fun k=>B83l0 (GX83l0 k) (FX138 k) _ _ _ _) (fun k=>rfl) ?_
  unfold B83l0
  exact ev_neg (by unfold wrap64;omega) (Ev.now _)
include hn2
theorem first_:Ev (fun k=>FX83 k (kz n) [fz d]) 0:=by
  show Ev (fun k=>B83 (GX83l0 k) (FX119 k) _ _) _
  unfold B83
  exact Ev.bind (Ev.of (fun k=>m119 k _) (isI_eq (upTo_at f119 n hn hn2))) (ev_neg (fun h=>h rfl) (firstl_ hn hd hd2))
theorem norm_large (h:64<n*d):Ev (fun k=>FX17 k (kz n) (fz d)) ([],4):=by
  show Ev (fun k=>B17 (GX17l0 k) (FX83 k) _ _) _
  unfold B17
  refine Ev.bind (first_ hn hn2 hd hd2) (ev_neg (fun h=>h rfl) (ev_neg (by rw [fz_len hd];omega) (ev_pos ?_ (Ev.now _))))
  have e1:wrap64 (((kz n).length:Int)-1)=(n:Int):=by rw [kz_len hn,w64_ (by omega) (by omega)];omega
  have e2:wrap64 (((fz d).length:Int)-1)=(d:Int):=by rw [fz_len hd,w64_ (by omega) (by omega)];omega
  have h3:n*d≤24*64:=Nat.mul_le_mul hn2 hd2
  rw [e1,e2,←Int.natCast_mul,w64_ (by omega) (by omega)]
  omega
end
theorem awake_at:isT (FX16 300)=true:=by decide +kernel
theorem awake_ev:Ev (fun k=>FX16 k) true:=Ev.of (fun k=>m16 k) (isT_eq awake_at)
noncomputable def cs (n d:Nat):Option Bool:=B4 (some true) (FX17 300) (FX18 300) (FX20 300) (FX21 300) (FX22 300) (FX23 300) (FX24 300) (FX25 300) (n:Int) (d:Int)
theorem mcs (x0 x1:Int) (k:Nat):LeO (B4 (some true) (FX17 k) (FX18 k) (FX20 k) (FX21 k) (FX22 k) (FX23 k) (FX24 k) (FX25 k) x0 x1) (B4 (some true) (FX17 (k+1)) (FX18 (k+1)) (FX20 (k+1)) (FX21 (k+1)) (FX22 (k+1)) (FX23 (k+1)) (FX24 (k+1)) (FX25 (k+1)) x0 x1):=by
  unfold B4
  with_reducible repeat' first|exact LeO.refl _|exact LeO.none _|apply m17|apply m18|apply m20|apply m21|apply m22|apply m23|apply m24|apply m25|refine LeO.ite ?_ ?_|refine LeO.cnd_ ?_ ?_|refine LeO.bind ?_ (fun _=>?_)
theorem cs_ev {n d:Nat} (h:isT (cs n d)=true):Ev (fun k=>FX4 k (n:Int) (d:Int)) true:=by
  obtain⟨K1,h1⟩:=awake_ev
  obtain⟨K2,h2⟩:=Ev.of (mcs (n:Int) (d:Int)) (isT_eq h)
  refine⟨max K1 K2,fun k hk=>?_⟩
  show B4 (FX16 k) (FX17 k) (FX18 k) (FX20 k) (FX21 k) (FX22 k) (FX23 k) (FX24 k) (FX25 k) (n:Int) (d:Int)=some true
  have h3:FX16 k=some true:=h1 k (Nat.le_trans (Nat.le_max_left _ _) hk)
  rw [h3]
  exact h2 k (Nat.le_trans (Nat.le_max_right _ _) hk)
end Go.Proofs.YtijohnkgomcdbaaGreatV
