/- Part of the proof of the statement FieldpolyArithmetic: lemmas on the model's steps, Lean functions that say what the program's functions compute, and proofs that the calls do just that. No hypothesis is added. -/
import Derived.Test.YtijohnkgomcdbaaGreatKFieldpolyArithmetic4
set_option linter.all false
set_option maxRecDepth 100000
namespace Go.Proofs.YtijohnkgomcdbaaGreatV
open Go Go.RowKit YtijohnkgomcdbaaGreatE YtijohnkgomcdbaaGreatW.PrintWords YtijohnkgomcdbaaGreatW.PrintLast YtijohnkgomcdbaaGreatW.PrintMore
section
variable (gl0:(List TQ)→(List TQ)→Int→(List TQ)→Option X3) (c48:(List TQ)→Option S4) (c101:TQ→TQ→Option A5G) (c102:(List TQ)→Int→Option A7b)
noncomputable def A7h (x0:(List TQ)) (x1:(List TQ)) (x6:Int) (x5:(List TQ)):Option X3:=if x6<mx (x0.length:Int) (x1.length:Int)then((c102 x0 x6).bind fun r1=>((c102 x1 x6).bind fun r2=>((c101 (r1.1,r1.2) (r2.1,r2.2)).bind fun r3=>(if(x5.length+1)*40≤140737488355328 then(gl0 x0 x1 (wrap64 (x6+1)) (x5++([(r3.1,r3.2)]:List TQ)))else(none)))))else((c48 x5).bind fun r4=>(some r4))
theorem F0z (s0:C5 D20.ask.bl) (s:C4O.T):D20.po E0 (D0B c48 c101 c102) (C2o gl0) s0 0 (C4O.mk' s)=A7h gl0 c48 c101 c102 s.1.1 s.1.2.1 s.1.2.2.1 s.2.1:=by kernel_rfl
noncomputable def B20 (x0:(List TQ)) (x1:(List TQ)):Option X3:=gl0 x0 x1 0 ([]:List TQ)
theorem e20 (s:D20.ask.T):D20.ev E0 (D0B c48 c101 c102) (C2o gl0) s=B20 gl0 s.1.1 s.1.2.1:=by kernel_rfl
end
noncomputable def B5P (x0:(List (List TQ))) (x1:Int):Option A5t:=if x1<(x0.length:Int)then(if 0≤x1 then(if x1<(x0.length:Int)then(some (C4 ([]:List TQ) x0 x1))else(none))else(none))else(some ([]:List TQ))
theorem E1A (s:C0L.ask.T):C0L.ev E0 [] [] s=B5P s.1.1 s.1.2.1:=by kernel_rfl
noncomputable def C9j:Sk:=⟨[(0, .d (.li (.li (.ag (.pr (.ag (.pr .bo .st)) .st))))),(3, .d (.it .i64))],[]⟩
noncomputable def C4P (gl0:(List (List TQ))→Int→Option n7):List (C7 n7):=[⟨2,C9j,fun s=>gl0 s.1.1 s.1.2.1⟩]
section
variable (gl0:(List (List TQ))→Int→Option n7)
noncomputable def A8H (x0:(List (List TQ))) (x3:Int):Option n7:=if x3>0 then(if 0≤wrap64 (x3-1)then(if wrap64 (x3-1)<(x0.length:Int)then(if((C4 ([]:List TQ) x0 (wrap64 (x3-1))).length:Int)=0 then(gl0 x0 (wrap64 (x3-1)))else(if(0:Int)≤0 then(if 0≤x3 then(if x3≤(x0.length:Int)then(if(x0.length:Int)≤(x0.length:Int)then(if(([]:List (List TQ)).length+(slice_ x0 0 x3).length)*24≤140737488355328 then(some (([]:List (List TQ))++(slice_ x0 0 x3)))else(none))else(none))else(none))else(none))else(none)))else(none))else(none))else(if(0:Int)≤0 then(if 0≤x3 then(if x3≤(x0.length:Int)then(if(x0.length:Int)≤(x0.length:Int)then(if(([]:List (List TQ)).length+(slice_ x0 0 x3).length)*24≤140737488355328 then(some (([]:List (List TQ))++(slice_ x0 0 x3)))else(none))else(none))else(none))else(none))else(none))
theorem E1a (s0:C5 A9u.ask.bl) (s:C9j.T):A9u.po E0 [] (C4P gl0) s0 0 (C9j.mk' s)=A8H gl0 s.1.1 s.1.2.1:=by kernel_rfl
noncomputable def B3U (x0:(List (List TQ))):Option n7:=gl0 x0 (x0.length:Int)
theorem E6J (s:A9u.ask.T):A9u.ev E0 [] (C4P gl0) s=B3U gl0 s.1.1:=by kernel_rfl
end
noncomputable def C3w:Sk:=⟨[(0, .d (.li (.li (.ag (.pr (.ag (.pr .bo .st)) .st))))),(1, .d (.li (.li (.ag (.pr (.ag (.pr .bo .st)) .st))))),(5, .f (.a (.ref 5))),(6, .d (.it .i64))],[(5, .own (.li (.ag (.pr (.ag (.pr .bo .st)) .st))) true)]⟩
noncomputable def C9e (gl0:(List (List TQ))→(List (List TQ))→Int→(List (List TQ))→Option R23):List (C7 R23):=[⟨3,C3w,fun s=>gl0 s.1.1 s.1.2.1 s.1.2.2.1 s.2.1⟩]
noncomputable def C7d (c20:(List TQ)→(List TQ)→Option X3) (c103:(List (List TQ))→Int→Option A5t) (c104:(List (List TQ))→Option n7):List FE:=[B3e c20,D1B c103,B8v c104]
section
variable (gl0:(List (List TQ))→(List (List TQ))→Int→(List (List TQ))→Option R23) (c20:(List TQ)→(List TQ)→Option X3) (c103:(List (List TQ))→Int→Option A5t) (c104:(List (List TQ))→Option n7)
noncomputable def A9N (x0:(List (List TQ))) (x1:(List (List TQ))) (x6:Int) (x5:(List (List TQ))):Option R23:=if x6<mx (x0.length:Int) (x1.length:Int)then((c103 x0 x6).bind fun r1=>((c103 x1 x6).bind fun r2=>((c20 r1 r2).bind fun r3=>(if(x5.length+1)*24≤140737488355328 then(gl0 x0 x1 (wrap64 (x6+1)) (x5++([r3]:List (List TQ))))else(none)))))else((c104 x5).bind fun r4=>(some r4))
theorem E6c (s0:C5 D23.ask.bl) (s:C3w.T):D23.po E0 (C7d c20 c103 c104) (C9e gl0) s0 0 (C3w.mk' s)=A9N gl0 c20 c103 c104 s.1.1 s.1.2.1 s.1.2.2.1 s.2.1:=by kernel_rfl
noncomputable def B23 (x0:(List (List TQ))) (x1:(List (List TQ))):Option R23:=gl0 x0 x1 0 ([]:List (List TQ))
theorem e23 (s:D23.ask.T):D23.ev E0 (C7d c20 c103 c104) (C9e gl0) s=B23 gl0 s.1.1 s.1.2.1:=by kernel_rfl
end
noncomputable def D5z (c23:(List (List TQ))→(List (List TQ))→Option R23):List FE:=[D5C c23]
section
variable (c23:(List (List TQ))→(List (List TQ))→Option R23)
noncomputable def B65 (x0:(List (List TQ))) (x1:(List (List TQ))):Option R65:=(c23 x0 x1).bind fun r1=>(some r1)
theorem e65 (s:D65.ask.T):D65.ev E0 (D5z c23) [] s=B65 c23 s.1.1 s.1.2.1:=by kernel_rfl
end
noncomputable def D6r (c29:(List (List TQ))→(List (List TQ))→Option Z8) (c44:(List (List TQ))→Option m7) (c65:(List (List TQ))→(List (List TQ))→Option R65):List FE:=[B4N c29,B7f c44,D7r c65]
section
variable (c29:(List (List TQ))→(List (List TQ))→Option Z8) (c44:(List (List TQ))→Option m7) (c65:(List (List TQ))→(List (List TQ))→Option R65)
noncomputable def A8D (x0:(List (List TQ))) (x1:Int) (x2:Int) (x3:((List (List TQ))×(List (List TQ))×Unit)):Option A9g:=if x2≠0 then(if x1=x2 then(some (decide ((x0.length:Int)=0)))else(some false))else((c65 x3.1 x3.2.1).bind fun r1=>((c44 r1).bind fun r2=>(if r2≠0 then(if x1=r2 then(some (decide ((x0.length:Int)=0)))else(some false))else(if x1=0 then((c29 x0 r1).bind fun r3=>(some r3))else(some false)))))
theorem E7v (s:B6s.ask.T):B6s.ev E0 (D6r c29 c44 c65) [] s=A8D c29 c44 c65 s.1.1 s.1.2.1 s.1.2.2.1 s.1.2.2.2.1:=by kernel_rfl
end
noncomputable def D4d (c159:TI→Option A6G) (c161:TI→TI→Option A5m) (c162:TQ→Option A6P) (c163:TI→TI→Option A5h):List FE:=[D0N c159,C5s c161,C9T c162,D0Z c163]
section
variable (c159:TI→Option A6G) (c161:TI→TI→Option A5m) (c162:TQ→Option A6P) (c163:TI→TI→Option A5h)
noncomputable def A9z (x0:TQ) (x1:TQ):Option A3y:=B3 ((E4 x0.2 (⟨#[1]⟩:ByteArray))) (B3 ((E4 x1.2 (⟨#[1]⟩:ByteArray))) ((c161 x0.1 x1.1).bind fun r1=>((c159 (r1.1,r1.2)).bind fun r2=>(some (r2.1,r2.2)))) ((c161 x0.1 x1.1).bind fun r3=>((c162 x0).bind fun r4=>((c162 x1).bind fun r5=>((c161 (r4.1,r4.2) (r5.1,r5.2)).bind fun r6=>((c163 (r3.1,r3.2) (r6.1,r6.2)).bind fun r7=>(some (r7.1,r7.2)))))))) ((c161 x0.1 x1.1).bind fun r8=>((c162 x0).bind fun r9=>((c162 x1).bind fun r10=>((c161 (r9.1,r9.2) (r10.1,r10.2)).bind fun r11=>((c163 (r8.1,r8.2) (r11.1,r11.2)).bind fun r12=>(some (r12.1,r12.2)))))))
theorem E6w (s:B8w.ask.T):B8w.ev E0 (D4d c159 c161 c162 c163) [] s=A9z c159 c161 c162 c163 s.1.1 s.1.2.1:=by kernel_rfl
end
noncomputable def C6v:Sk:=⟨[(3, .f (.a (.ptr 3 0 []))),(5, .f (.a (.ref 5))),(8, .d (.li (.ag (.pr (.ag (.pr .bo .st)) .st)))),(9, .d (.it .i64)),(10, .d (.it .i64))],[(3, .cell (.ag (.pr (.ag (.pr .bo .st)) .st)) true),(5, .own (.ag (.pr (.ag (.pr .bo .st)) .st)) true)]⟩
noncomputable def C9u (gl0:(List TQ)→Int→Int→TQ→(List TQ)→Option R98):List (C7 R98):=[⟨3,C6v,fun s=>gl0 s.1.1 s.1.2.1 s.1.2.2.1 s.2.1 s.2.2.1⟩]
noncomputable def C5e (c48:(List TQ)→Option S4) (c118:TQ→TQ→Option A3y):List FE:=[A8z c48,C0Z c118]
section
variable (gl0:(List TQ)→Int→Int→TQ→(List TQ)→Option R98) (c48:(List TQ)→Option S4) (c118:TQ→TQ→Option A3y)
noncomputable def A7v (x8:(List TQ)) (x9:Int) (x10:Int) (x3:TQ) (x5:(List TQ)):Option R98:=if x10<x9 then(if 0≤x10 then(if x10<(x8.length:Int)then((c118 (C4 ((false,(⟨#[]⟩:ByteArray)),(⟨#[]⟩:ByteArray)) x8 x10) x3).bind fun r1=>(if(x5.length+1)*40≤140737488355328 then(gl0 x8 x9 (wrap64 (x10+1)) x3 (x5++([(r1.1,r1.2)]:List TQ)))else(none)))else(none))else(none))else((c48 x5).bind fun r2=>(some r2))
theorem E7G (s0:C5 D98.ask.bl) (s:C6v.T):D98.po E0 (C5e c48 c118) (C9u gl0) s0 0 (C6v.mk' s)=A7v gl0 c48 c118 s.1.1 s.1.2.1 s.1.2.2.1 s.2.1 s.2.2.1:=by kernel_rfl
noncomputable def B98 (x0:(List TQ)) (x1:TQ):Option R98:=gl0 x0 (x0.length:Int) 0 x1 ([]:List TQ)
theorem e98 (s:D98.ask.T):D98.ev E0 (C5e c48 c118) (C9u gl0) s=B98 gl0 s.1.1 s.1.2.1:=by kernel_rfl
end
noncomputable def D1v (c20:(List TQ)→(List TQ)→Option X3) (c81:Int→Option Y4) (c98:(List TQ)→TQ→Option R98):List FE:=[B3e c20,A6D c81,D7S c98]
section
variable (c20:(List TQ)→(List TQ)→Option X3) (c81:Int→Option Y4) (c98:(List TQ)→TQ→Option R98)
noncomputable def B51 (x0:(List TQ)) (x1:(List TQ)):Option R51:=(c81 (-1)).bind fun r1=>((c98 x1 (r1.1,r1.2)).bind fun r2=>((c20 x0 r2).bind fun r3=>(some r3)))
theorem e51 (s:D51.ask.T):D51.ev E0 (D1v c20 c81 c98) [] s=B51 c20 c81 c98 s.1.1 s.1.2.1:=by kernel_rfl
end
noncomputable def C6n:Sk:=⟨[(0, .d (.li (.li (.ag (.pr (.ag (.pr .bo .st)) .st))))),(1, .d (.li (.li (.ag (.pr (.ag (.pr .bo .st)) .st))))),(5, .f (.a (.ref 5))),(6, .d (.it .i64))],[(5, .own (.li (.ag (.pr (.ag (.pr .bo .st)) .st))) true)]⟩
noncomputable def C4i (gl0:(List (List TQ))→(List (List TQ))→Int→(List (List TQ))→Option R67):List (C7 R67):=[⟨3,C6n,fun s=>gl0 s.1.1 s.1.2.1 s.1.2.2.1 s.2.1⟩]
noncomputable def C1N (c51:(List TQ)→(List TQ)→Option R51) (c103:(List (List TQ))→Int→Option A5t) (c104:(List (List TQ))→Option n7):List FE:=[C7R c51,D1B c103,B8v c104]
section
variable (gl0:(List (List TQ))→(List (List TQ))→Int→(List (List TQ))→Option R67) (c51:(List TQ)→(List TQ)→Option R51) (c103:(List (List TQ))→Int→Option A5t) (c104:(List (List TQ))→Option n7)
noncomputable def A8W (x0:(List (List TQ))) (x1:(List (List TQ))) (x6:Int) (x5:(List (List TQ))):Option R67:=if x6<mx (x0.length:Int) (x1.length:Int)then((c103 x0 x6).bind fun r1=>((c103 x1 x6).bind fun r2=>((c51 r1 r2).bind fun r3=>(if(x5.length+1)*24≤140737488355328 then(gl0 x0 x1 (wrap64 (x6+1)) (x5++([r3]:List (List TQ))))else(none)))))else((c104 x5).bind fun r4=>(some r4))
theorem E0J (s0:C5 D67.ask.bl) (s:C6n.T):D67.po E0 (C1N c51 c103 c104) (C4i gl0) s0 0 (C6n.mk' s)=A8W gl0 c51 c103 c104 s.1.1 s.1.2.1 s.1.2.2.1 s.2.1:=by kernel_rfl
noncomputable def B67 (x0:(List (List TQ))) (x1:(List (List TQ))):Option R67:=gl0 x0 x1 0 ([]:List (List TQ))
theorem e67 (s:D67.ask.T):D67.ev E0 (C1N c51 c103 c104) (C4i gl0) s=B67 gl0 s.1.1 s.1.2.1:=by kernel_rfl
end
noncomputable def D1f (c67:(List (List TQ))→(List (List TQ))→Option R67):List FE:=[D1I c67]
section
variable (c67:(List (List TQ))→(List (List TQ))→Option R67)
noncomputable def B66 (x0:(List (List TQ))) (x1:(List (List TQ))):Option R66:=(c67 x0 x1).bind fun r1=>(some r1)
theorem e66 (s:D66.ask.T):D66.ev E0 (D1f c67) [] s=B66 c67 s.1.1 s.1.2.1:=by kernel_rfl
end
noncomputable def D5b (c29:(List (List TQ))→(List (List TQ))→Option Z8) (c44:(List (List TQ))→Option m7) (c66:(List (List TQ))→(List (List TQ))→Option R66):List FE:=[B4N c29,B7f c44,D2b c66]
section
variable (c29:(List (List TQ))→(List (List TQ))→Option Z8) (c44:(List (List TQ))→Option m7) (c66:(List (List TQ))→(List (List TQ))→Option R66)
noncomputable def A7f (x0:(List (List TQ))) (x1:Int) (x2:Int) (x3:((List (List TQ))×(List (List TQ))×Unit)):Option B2b:=if x2≠0 then(if x1=x2 then(some (decide ((x0.length:Int)=0)))else(some false))else((c66 x3.1 x3.2.1).bind fun r1=>((c44 r1).bind fun r2=>(if r2≠0 then(if x1=r2 then(some (decide ((x0.length:Int)=0)))else(some false))else(if x1=0 then((c29 x0 r1).bind fun r3=>(some r3))else(some false)))))
theorem E8p (s:B7g.ask.T):B7g.ev E0 (D5b c29 c44 c66) [] s=A7f c29 c44 c66 s.1.1 s.1.2.1 s.1.2.2.1 s.1.2.2.2.1:=by kernel_rfl
end
noncomputable def C1d:Sk:=⟨[(0, .d (.li (.ag (.pr (.ag (.pr .bo .st)) .st)))),(1, .d (.li (.ag (.pr (.ag (.pr .bo .st)) .st)))),(5, .f (.a (.ref 5))),(6, .d (.it .i64))],[(5, .own (.ag (.pr (.ag (.pr .bo .st)) .st)) true)]⟩
noncomputable def C6q:Sk:=⟨[(0, .d (.li (.ag (.pr (.ag (.pr .bo .st)) .st)))),(1, .d (.li (.ag (.pr (.ag (.pr .bo .st)) .st)))),(5, .f (.a (.ref 5))),(6, .d (.it .i64)),(7, .f (.a (.ptr 7 0 []))),(21, .d (.it .i64)),(22, .d (.it .i64))],[(5, .own (.ag (.pr (.ag (.pr .bo .st)) .st)) true),(7, .cell (.ag (.pr (.ag (.pr .bo .st)) .st)) true)]⟩
noncomputable def B7H (gl0:(List TQ)→(List TQ)→Int→(List TQ)→Option Z3) (gl1:(List TQ)→(List TQ)→Int→Int→Int→(List TQ)→TQ→Option Z3):List (C7 Z3):=[⟨3,C1d,fun s=>gl0 s.1.1 s.1.2.1 s.1.2.2.1 s.2.1⟩,⟨7,C6q,fun s=>gl1 s.1.1 s.1.2.1 s.1.2.2.1 s.1.2.2.2.1 s.1.2.2.2.2.1 s.2.1 s.2.2.1⟩]
noncomputable def B6U (c48:(List TQ)→Option S4) (c81:Int→Option Y4) (c101:TQ→TQ→Option A5G) (c118:TQ→TQ→Option A3y):List FE:=[A8z c48,A6D c81,C6G c101,C0Z c118]
section
variable (gl0:(List TQ)→(List TQ)→Int→(List TQ)→Option Z3) (gl1:(List TQ)→(List TQ)→Int→Int→Int→(List TQ)→TQ→Option Z3) (c48:(List TQ)→Option S4) (c81:Int→Option Y4) (c101:TQ→TQ→Option A5G) (c118:TQ→TQ→Option A3y)
noncomputable def A8P (x0:(List TQ)) (x1:(List TQ)) (x6:Int) (x5:(List TQ)):Option Z3:=if x6<wrap64 ((wrap64 ((x0.length:Int)+(x1.length:Int)))-1)then((c81 0).bind fun r1=>(gl1 x0 x1 x6 (x0.length:Int) 0 x5 (r1.1,r1.2)))else((c48 x5).bind fun r2=>(some r2))
theorem E5M (s0:C5 D45.ask.bl) (s:C1d.T):D45.po E0 (B6U c48 c81 c101 c118) (B7H gl0 gl1) s0 0 (C1d.mk' s)=A8P gl1 c48 c81 s.1.1 s.1.2.1 s.1.2.2.1 s.2.1:=by kernel_rfl
noncomputable def A7a (x0:(List TQ)) (x1:(List TQ)) (x6:Int) (x21:Int) (x22:Int) (x5:(List TQ)) (x7:TQ):Option Z3:=if x22<x21 then(if wrap64 (x6-x22)≥0 then(if wrap64 (x6-x22)<(x1.length:Int)then(if 0≤x22 then(if x22<(x0.length:Int)then(if 0≤wrap64 (x6-x22)then(if wrap64 (x6-x22)<(x1.length:Int)then((c118 (C4 ((false,(⟨#[]⟩:ByteArray)),(⟨#[]⟩:ByteArray)) x0 x22) (C4 ((false,(⟨#[]⟩:ByteArray)),(⟨#[]⟩:ByteArray)) x1 (wrap64 (x6-x22)))).bind fun r1=>((c101 x7 (r1.1,r1.2)).bind fun r2=>(gl1 x0 x1 x6 x21 (wrap64 (x22+1)) x5 (r2.1,r2.2))))else(none))else(none))else(none))else(none))else(gl1 x0 x1 x6 x21 (wrap64 (x22+1)) x5 x7))else(gl1 x0 x1 x6 x21 (wrap64 (x22+1)) x5 x7))else(if(x5.length+1)*40≤140737488355328 then(gl0 x0 x1 (wrap64 (x6+1)) (x5++([x7]:List TQ)))else(none))
theorem F1c (s0:C5 D45.ask.bl) (s:C6q.T):D45.po E0 (B6U c48 c81 c101 c118) (B7H gl0 gl1) s0 1 (C6q.mk' s)=A7a gl0 gl1 c101 c118 s.1.1 s.1.2.1 s.1.2.2.1 s.1.2.2.2.1 s.1.2.2.2.2.1 s.2.1 s.2.2.1:=by kernel_rfl
noncomputable def B45 (x0:(List TQ)) (x1:(List TQ)):Option Z3:=gl0 x0 x1 0 ([]:List TQ)
theorem e45 (s:D45.ask.T):D45.ev E0 (B6U c48 c81 c101 c118) (B7H gl0 gl1) s=B45 gl0 s.1.1 s.1.2.1:=by kernel_rfl
end
noncomputable def C9S:Sk:=⟨[(1, .d (.it .i64)),(2, .f (.a (.ptr 2 0 []))),(5, .f (.a (.ref 5))),(6, .d (.it .i64))],[(2, .cell (.ag (.pr (.ag (.pr .bo .st)) .st)) true),(5, .own (.ag (.pr (.ag (.pr .bo .st)) .st)) true)]⟩
noncomputable def C2D (gl0:Int→Int→TQ→(List TQ)→Option R21):List (C7 R21):=[⟨3,C9S,fun s=>gl0 s.1.1 s.1.2.1 s.2.1 s.2.2.1⟩]
noncomputable def C1V (c48:(List TQ)→Option S4) (c81:Int→Option Y4):List FE:=[A8z c48,A6D c81]
section
variable (gl0:Int→Int→TQ→(List TQ)→Option R21) (c48:(List TQ)→Option S4) (c81:Int→Option Y4)
noncomputable def A7c (x1:Int) (x6:Int) (x2:TQ) (x5:(List TQ)):Option R21:=if x6<x1 then((c81 0).bind fun r1=>(if(x5.length+1)*40≤140737488355328 then(gl0 x1 (wrap64 (x6+1)) x2 (x5++([(r1.1,r1.2)]:List TQ)))else(none)))else(if(x5.length+1)*40≤140737488355328 then((c48 (x5++([x2]:List TQ))).bind fun r2=>(some r2))else(none))
theorem E1x (s0:C5 D21.ask.bl) (s:C9S.T):D21.po E0 (C1V c48 c81) (C2D gl0) s0 0 (C9S.mk' s)=A7c gl0 c48 c81 s.1.1 s.1.2.1 s.2.1 s.2.2.1:=by kernel_rfl
noncomputable def B21 (x0:TQ) (x1:Int):Option R21:=gl0 x1 0 x0 ([]:List TQ)
theorem e21 (s:D21.ask.T):D21.ev E0 (C1V c48 c81) (C2D gl0) s=B21 gl0 s.1.1 s.1.2.1:=by kernel_rfl
end
noncomputable def B9M (x0:TQ):Option B0Q:=B3 ((E4 x0.1.2 (⟨#[]⟩:ByteArray))) (some (x0.1,x0.2)) (some ((x0.1.1,x0.2),x0.1.2))
theorem E4G (s:B9N.ask.T):B9N.ev E0 [] [] s=B9M s.1.1:=by kernel_rfl
noncomputable def D4D (c118:TQ→TQ→Option A3y) (c157:TQ→Option B0Q):List FE:=[C0Z c118,D1r c157]
section
variable (c118:TQ→TQ→Option A3y) (c157:TQ→Option B0Q)
noncomputable def B99 (x0:TQ) (x1:TQ):Option R99:=(c157 x1).bind fun r1=>((c118 x0 (r1.1,r1.2)).bind fun r2=>(some (r2.1,r2.2)))
theorem e99 (s:D99.ask.T):D99.ev E0 (D4D c118 c157) [] s=B99 c118 c157 s.1.1 s.1.2.1:=by kernel_rfl
end
noncomputable def C8D:Sk:=⟨[(1, .d (.li (.ag (.pr (.ag (.pr .bo .st)) .st)))),(6, .d (.li (.ag (.pr (.ag (.pr .bo .st)) .st)))),(7, .d (.li (.ag (.pr (.ag (.pr .bo .st)) .st))))],[]⟩
noncomputable def C6c (gl0:(List TQ)→(List TQ)→(List TQ)→Option A2d):List (C7 A2d):=[⟨3,C8D,fun s=>gl0 s.1.1 s.1.2.1 s.1.2.2.1⟩]
noncomputable def C8P (c20:(List TQ)→(List TQ)→Option X3) (c21:TQ→Int→Option R21) (c45:(List TQ)→(List TQ)→Option Z3) (c48:(List TQ)→Option S4) (c51:(List TQ)→(List TQ)→Option R51) (c80:(List TQ)→Option R80) (c99:TQ→TQ→Option R99):List FE:=[B3e c20,D5Q c21,C7c c45,A8z c48,C7R c51,C7C c80,D1Z c99]
section
variable (gl0:(List TQ)→(List TQ)→(List TQ)→Option A2d) (c20:(List TQ)→(List TQ)→Option X3) (c21:TQ→Int→Option R21) (c45:(List TQ)→(List TQ)→Option Z3) (c48:(List TQ)→Option S4) (c51:(List TQ)→(List TQ)→Option R51) (c80:(List TQ)→Option R80) (c99:TQ→TQ→Option R99)
noncomputable def A9D (x1:(List TQ)) (x6:(List TQ)) (x7:(List TQ)):Option A2d:=if(x7.length:Int)≥(x1.length:Int)then((c80 x7).bind fun r1=>((c80 x1).bind fun r2=>((c99 (r1.1,r1.2) (r2.1,r2.2)).bind fun r3=>((c21 (r3.1,r3.2) (wrap64 ((x7.length:Int)-(x1.length:Int)))).bind fun r4=>((c20 x6 r4).bind fun r5=>((c45 r4 x1).bind fun r6=>((c51 x7 r6).bind fun r7=>(gl0 x1 r5 r7))))))))else(some (x6,x7))
theorem F3e (s0:C5 B0q.ask.bl) (s:C8D.T):B0q.po E0 (C8P c20 c21 c45 c48 c51 c80 c99) (C6c gl0) s0 0 (C8D.mk' s)=A9D gl0 c20 c21 c45 c51 c80 c99 s.1.1 s.1.2.1 s.1.2.2.1:=by kernel_rfl
noncomputable def B4B (x0:(List TQ)) (x1:(List TQ)):Option A2d:=(c48 x0).bind fun r1=>(gl0 x1 ([]:List TQ) r1)
theorem E9g (s:B0q.ask.T):B0q.ev E0 (C8P c20 c21 c45 c48 c51 c80 c99) (C6c gl0) s=B4B gl0 c48 s.1.1 s.1.2.1:=by kernel_rfl
end
noncomputable def D5f (c210:(List TQ)→(List TQ)→Option A2d):List FE:=[D7b c210]
section
variable (c210:(List TQ)→(List TQ)→Option A2d)
noncomputable def B4d (x0:(List TQ)) (x1:(List TQ)):Option B2j:=(c210 x0 x1).bind fun r1=>(some r1.2)
theorem F2W (s:B9o.ask.T):B9o.ev E0 (D5f c210) [] s=B4d c210 s.1.1 s.1.2.1:=by kernel_rfl
end
noncomputable def D5v (c167:(List TQ)→(List TQ)→Option B2j):List FE:=[D6K c167]
section
variable (c167:(List TQ)→(List TQ)→Option B2j)
noncomputable def B5f (x0:(List TQ)) (x1:(List TQ)):Option B1S:=(c167 x1 x0).bind fun r1=>(some r1)
theorem F0J (s:B7n.ask.T):B7n.ev E0 (D5v c167) [] s=B5f c167 s.1.1 s.1.2.1:=by kernel_rfl
end
noncomputable def D0h:Sk:=⟨[(1, .d (.li (.li (.ag (.pr (.ag (.pr .bo .st)) .st))))),(2, .d (.li (.li (.ag (.pr (.ag (.pr .bo .st)) .st))))),(3, .f (.a (.ptr 3 0 []))),(7, .f (.a (.ref 7))),(8, .d (.it .i64))],[(3, .cell (.ag (.li (.ag (.pr (.ag (.pr .bo .st)) .st)))) true),(7, .own (.li (.ag (.pr (.ag (.pr .bo .st)) .st))) true)]⟩
noncomputable def C2e:Sk:=⟨[(1, .d (.li (.li (.ag (.pr (.ag (.pr .bo .st)) .st))))),(2, .d (.li (.li (.ag (.pr (.ag (.pr .bo .st)) .st))))),(3, .f (.a (.ptr 3 0 []))),(7, .f (.a (.ref 7))),(8, .d (.it .i64)),(9, .d (.li (.ag (.pr (.ag (.pr .bo .st)) .st)))),(22, .d (.it .i64)),(23, .d (.it .i64))],[(3, .cell (.ag (.li (.ag (.pr (.ag (.pr .bo .st)) .st)))) true),(7, .own (.li (.ag (.pr (.ag (.pr .bo .st)) .st))) true)]⟩
noncomputable def B7M (gl0:(List (List TQ))→(List (List TQ))→Int→(List TQ)→(List (List TQ))→Option n9) (gl1:(List (List TQ))→(List (List TQ))→Int→(List TQ)→Int→Int→(List TQ)→(List (List TQ))→Option n9):List (C7 n9):=[⟨3,D0h,fun s=>gl0 s.1.1 s.1.2.1 s.1.2.2.1 s.2.1 s.2.2.1⟩,⟨7,C2e,fun s=>gl1 s.1.1 s.1.2.1 s.1.2.2.1 s.1.2.2.2.1 s.1.2.2.2.2.1 s.1.2.2.2.2.2.1 s.2.1 s.2.2.1⟩]
noncomputable def C0S (c20:(List TQ)→(List TQ)→Option X3) (c45:(List TQ)→(List TQ)→Option Z3) (c104:(List (List TQ))→Option n7) (c109:(List TQ)→(List TQ)→Option B1S):List FE:=[B3e c20,C7c c45,B8v c104,D3s c109]
section
variable (gl0:(List (List TQ))→(List (List TQ))→Int→(List TQ)→(List (List TQ))→Option n9) (gl1:(List (List TQ))→(List (List TQ))→Int→(List TQ)→Int→Int→(List TQ)→(List (List TQ))→Option n9) (c20:(List TQ)→(List TQ)→Option X3) (c45:(List TQ)→(List TQ)→Option Z3) (c104:(List (List TQ))→Option n7) (c109:(List TQ)→(List TQ)→Option B1S)
noncomputable def A9B (x1:(List (List TQ))) (x2:(List (List TQ))) (x8:Int) (x3:(List TQ)) (x7:(List (List TQ))):Option n9:=if x8<wrap64 ((wrap64 ((x1.length:Int)+(x2.length:Int)))-1)then(gl1 x1 x2 x8 ([]:List TQ) (x1.length:Int) 0 x3 x7)else((c104 x7).bind fun r1=>(some r1))
theorem E4b (s0:C5 D30.ask.bl) (s:D0h.T):D30.po E0 (C0S c20 c45 c104 c109) (B7M gl0 gl1) s0 0 (D0h.mk' s)=A9B gl1 c104 s.1.1 s.1.2.1 s.1.2.2.1 s.2.1 s.2.2.1:=by kernel_rfl
noncomputable def A9E (x1:(List (List TQ))) (x2:(List (List TQ))) (x8:Int) (x9:(List TQ)) (x22:Int) (x23:Int) (x3:(List TQ)) (x7:(List (List TQ))):Option n9:=if x23<x22 then(if wrap64 (x8-x23)≥0 then(if wrap64 (x8-x23)<(x2.length:Int)then(if 0≤x23 then(if x23<(x1.length:Int)then(if 0≤wrap64 (x8-x23)then(if wrap64 (x8-x23)<(x2.length:Int)then((c45 (C4 ([]:List TQ) x1 x23) (C4 ([]:List TQ) x2 (wrap64 (x8-x23)))).bind fun r1=>((c20 x9 r1).bind fun r2=>(gl1 x1 x2 x8 r2 x22 (wrap64 (x23+1)) x3 x7)))else(none))else(none))else(none))else(none))else(gl1 x1 x2 x8 x9 x22 (wrap64 (x23+1)) x3 x7))else(gl1 x1 x2 x8 x9 x22 (wrap64 (x23+1)) x3 x7))else((c109 x3 x9).bind fun r3=>(if(x7.length+1)*24≤140737488355328 then(gl0 x1 x2 (wrap64 (x8+1)) x3 (x7++([r3]:List (List TQ))))else(none)))
theorem F7H (s0:C5 D30.ask.bl) (s:C2e.T):D30.po E0 (C0S c20 c45 c104 c109) (B7M gl0 gl1) s0 1 (C2e.mk' s)=A9E gl0 gl1 c20 c45 c109 s.1.1 s.1.2.1 s.1.2.2.1 s.1.2.2.2.1 s.1.2.2.2.2.1 s.1.2.2.2.2.2.1 s.2.1 s.2.2.1:=by kernel_rfl
noncomputable def B30 (x0:(List TQ)) (x1:(List (List TQ))) (x2:(List (List TQ))):Option n9:=gl0 x1 x2 0 x0 ([]:List (List TQ))
theorem e30 (s:D30.ask.T):D30.ev E0 (C0S c20 c45 c104 c109) (B7M gl0 gl1) s=B30 gl0 s.1.1 s.1.2.1 s.1.2.2.1:=by kernel_rfl
end
noncomputable def D8d (c30:(List TQ)→(List (List TQ))→(List (List TQ))→Option n9):List FE:=[D9S c30]
section
variable (c30:(List TQ)→(List (List TQ))→(List (List TQ))→Option n9)
noncomputable def B68 (x0:(List TQ)) (x1:(List (List TQ))) (x2:(List (List TQ))):Option R68:=(c30 x0 x1 x2).bind fun r1=>(some r1)
theorem e68 (s:D68.ask.T):D68.ev E0 (D8d c30) [] s=B68 c30 s.1.1 s.1.2.1 s.1.2.2.1:=by kernel_rfl
end
noncomputable def D4z (c29:(List (List TQ))→(List (List TQ))→Option Z8) (c44:(List (List TQ))→Option m7) (c68:(List TQ)→(List (List TQ))→(List (List TQ))→Option R68):List FE:=[B4N c29,B7f c44,D4t c68]
section
variable (c29:(List (List TQ))→(List (List TQ))→Option Z8) (c44:(List (List TQ))→Option m7) (c68:(List TQ)→(List (List TQ))→(List (List TQ))→Option R68)
noncomputable def A8a (x0:(List (List TQ))) (x1:Int) (x2:Int) (x3:((List TQ)×(List (List TQ))×(List (List TQ))×Unit)):Option B1Q:=if x2≠0 then(if x1=x2 then(some (decide ((x0.length:Int)=0)))else(some false))else((c68 x3.1 x3.2.1 x3.2.2.1).bind fun r1=>((c44 r1).bind fun r2=>(if r2≠0 then(if x1=r2 then(some (decide ((x0.length:Int)=0)))else(some false))else(if x1=0 then((c29 x0 r1).bind fun r3=>(some r3))else(some false)))))
theorem E9n (s:B6R.ask.T):B6R.ev E0 (D4z c29 c44 c68) [] s=A8a c29 c44 c68 s.1.1 s.1.2.1 s.1.2.2.1 s.1.2.2.2.1:=by kernel_rfl
end
noncomputable def D1s (c127:(List TQ)→(List (List TQ))→(List (List TQ))→Option T3):List FE:=[C2p c127]
section
variable (c127:(List TQ)→(List (List TQ))→(List (List TQ))→Option T3)
noncomputable def C4T (x0:(List TQ)) (x1:(List (List TQ))) (x2:(List (List TQ))):Option B1y:=(c127 x0 x1 x2).bind fun r1=>(some r1)
theorem E0k (s:B7c.ask.T):B7c.ev E0 (D1s c127) [] s=C4T c127 s.1.1 s.1.2.1 s.1.2.2.1:=by kernel_rfl
end
noncomputable def D1F (c108:(List (List TQ))→Option i8) (c129:(List TQ)→(List (List TQ))→(List (List TQ))→Option B1y):List FE:=[A7n c108,D1p c129]
section
variable (c108:(List (List TQ))→Option i8) (c129:(List TQ)→(List (List TQ))→(List (List TQ))→Option B1y)
noncomputable def B4T (x0:((List TQ)×(List (List TQ))×(List (List TQ))×Unit)):Option B0V:=(c129 x0.1 x0.2.1 x0.2.2.1).bind fun r1=>((c108 r1).bind fun r2=>(B3 (r2) (some (([]:List (List TQ)),4)) (some (r1,0))))
theorem F2H (s:B7z.ask.T):B7z.ev E0 (D1F c108 c129) [] s=B4T c108 c129 s.1.1:=by kernel_rfl
end
noncomputable def D3A (c83:(List TQ)→(List (List (List TQ)))→Option Q4) (c111Mul:((List TQ)×(List (List TQ))×(List (List TQ))×Unit)→Option B0V):List FE:=[A5j c83,D8q c111Mul]
section
variable (c83:(List TQ)→(List (List (List TQ)))→Option Q4) (c111Mul:((List TQ)×(List (List TQ))×(List (List TQ))×Unit)→Option B0V)
noncomputable def B53 (x0:(List TQ)) (x1:(List (List TQ))) (x2:(List (List TQ))):Option R53:=(c83 x0 ([x1,x2]:List (List (List TQ)))).bind fun r1=>(if r1≠0 then(some (([]:List (List TQ)),r1))else((c111Mul (x0,x1,x2,())).bind fun r2=>(some (r2.1,r2.2))))
theorem e53 (s:D53.ask.T):D53.ev E0 (D3A c83 c111Mul) [] s=B53 c83 c111Mul s.1.1 s.1.2.1 s.1.2.2.1:=by kernel_rfl
end
noncomputable def D3N (c126:(List (List TQ))→(List (List TQ))→Option A0o):List FE:=[C3F c126]
section
variable (c126:(List (List TQ))→(List (List TQ))→Option A0o)
noncomputable def C4E (x0:(List (List TQ))) (x1:(List (List TQ))):Option B1E:=(c126 x0 x1).bind fun r1=>(some r1)
theorem F5n (s:B6O.ask.T):B6O.ev E0 (D3N c126) [] s=C4E c126 s.1.1 s.1.2.1:=by kernel_rfl
end
noncomputable def D5A (c108:(List (List TQ))→Option i8) (c132:(List (List TQ))→(List (List TQ))→Option B1E):List FE:=[A7n c108,D2p c132]
section
variable (c108:(List (List TQ))→Option i8) (c132:(List (List TQ))→(List (List TQ))→Option B1E)
noncomputable def B4F (x0:((List (List TQ))×(List (List TQ))×Unit)):Option B0R:=(c132 x0.1 x0.2.1).bind fun r1=>((c108 r1).bind fun r2=>(B3 (r2) (some (([]:List (List TQ)),4)) (some (r1,0))))
theorem E6R (s:B9l.ask.T):B9l.ev E0 (D5A c108 c132) [] s=B4F c108 c132 s.1.1:=by kernel_rfl
end
noncomputable def D6x (c83:(List TQ)→(List (List (List TQ)))→Option Q4) (c111Add:((List (List TQ))×(List (List TQ))×Unit)→Option B0R):List FE:=[A5j c83,D6U c111Add]
section
variable (c83:(List TQ)→(List (List (List TQ)))→Option Q4) (c111Add:((List (List TQ))×(List (List TQ))×Unit)→Option B0R)
noncomputable def B63 (x0:(List TQ)) (x1:(List (List TQ))) (x2:(List (List TQ))):Option R63:=(c83 x0 ([x1,x2]:List (List (List TQ)))).bind fun r1=>(if r1≠0 then(some (([]:List (List TQ)),r1))else((c111Add (x1,x2,())).bind fun r2=>(some (r2.1,r2.2))))
theorem e63 (s:D63.ask.T):D63.ev E0 (D6x c83 c111Add) [] s=B63 c83 c111Add s.1.1 s.1.2.1 s.1.2.2.1:=by kernel_rfl
end
noncomputable def C3j:Sk:=⟨[(0, .d (.li (.li (.ag (.pr (.ag (.pr .bo .st)) .st))))),(1, .d (.li (.li (.ag (.pr (.ag (.pr .bo .st)) .st))))),(5, .f (.a (.ref 5))),(14, .d (.it .i64)),(15, .d (.it .i64))],[(5, .own (.li (.ag (.pr (.ag (.pr .bo .st)) .st))) true)]⟩
noncomputable def C4v (gl0:(List (List TQ))→(List (List TQ))→Int→Int→(List (List TQ))→Option A2F):List (C7 A2F):=[⟨3,C3j,fun s=>gl0 s.1.1 s.1.2.1 s.1.2.2.1 s.1.2.2.2.1 s.2.1⟩]
noncomputable def C5Y (c122:(List (List TQ))→Option T6) (c166:(List TQ)→(List TQ)→Option o4) (c174:(List (List TQ))→Int→Option A6h):List FE:=[A8S c122,C0r c166,C9q c174]
section
variable (gl0:(List (List TQ))→(List (List TQ))→Int→Int→(List (List TQ))→Option A2F) (c122:(List (List TQ))→Option T6) (c166:(List TQ)→(List TQ)→Option o4) (c174:(List (List TQ))→Int→Option A6h)
noncomputable def A7R (x0:(List (List TQ))) (x1:(List (List TQ))) (x14:Int) (x15:Int) (x5:(List (List TQ))):Option A2F:=if x15<x14 then((c174 x0 x15).bind fun r1=>((c174 x1 x15).bind fun r2=>((c166 r1 r2).bind fun r3=>(if 0≤x15 then(if x15<(x5.length:Int)then(gl0 x0 x1 x14 (wrap64 (x15+1)) (x5.set (x15:Int).toNat r3))else(none))else(none)))))else((c122 x5).bind fun r4=>(some r4))
theorem F3n (s0:C5 B2s.ask.bl) (s:C3j.T):B2s.po E0 (C5Y c122 c166 c174) (C4v gl0) s0 0 (C3j.mk' s)=A7R gl0 c122 c166 c174 s.1.1 s.1.2.1 s.1.2.2.1 s.1.2.2.2.1 s.2.1:=by kernel_rfl
noncomputable def B2z (x0:(List (List TQ))) (x1:(List (List TQ))):Option A2F:=if 0≤mx (x0.length:Int) (x1.length:Int)then(if mx (x0.length:Int) (x1.length:Int)≤mx (x0.length:Int) (x1.length:Int)then(if(mx (x0.length:Int) (x1.length:Int):Int).toNat≤11728124029610 then(gl0 x0 x1 ((List.replicate (mx (x0.length:Int) (x1.length:Int):Int).toNat ([]:List TQ)).length:Int) 0 (List.replicate (mx (x0.length:Int) (x1.length:Int):Int).toNat ([]:List TQ)))else(none))else(none))else(none)
theorem E5x (s:B2s.ask.T):B2s.ev E0 (C5Y c122 c166 c174) (C4v gl0) s=B2z gl0 s.1.1 s.1.2.1:=by kernel_rfl
end
noncomputable def D7M (c134:(List (List TQ))→(List (List TQ))→Option A2F):List FE:=[D3u c134]
section
variable (c134:(List (List TQ))→(List (List TQ))→Option A2F)
noncomputable def C4o (x0:(List (List TQ))) (x1:(List (List TQ))):Option B0L:=(c134 x0 x1).bind fun r1=>(some r1)
theorem E5N (s:B7m.ask.T):B7m.ev E0 (D7M c134) [] s=C4o c134 s.1.1 s.1.2.1:=by kernel_rfl
end
noncomputable def D5U (c108:(List (List TQ))→Option i8) (c133:(List (List TQ))→(List (List TQ))→Option B0L):List FE:=[A7n c108,D4m c133]
section
variable (c108:(List (List TQ))→Option i8) (c133:(List (List TQ))→(List (List TQ))→Option B0L)
noncomputable def B3i (x0:((List (List TQ))×(List (List TQ))×Unit)):Option B1t:=(c133 x0.1 x0.2.1).bind fun r1=>((c108 r1).bind fun r2=>(B3 (r2) (some (([]:List (List TQ)),4)) (some (r1,0))))
theorem E6S (s:B6K.ask.T):B6K.ev E0 (D5U c108 c133) [] s=B3i c108 c133 s.1.1:=by kernel_rfl
end
noncomputable def D4o (c83:(List TQ)→(List (List (List TQ)))→Option Q4) (c111Sub:((List (List TQ))×(List (List TQ))×Unit)→Option B1t):List FE:=[A5j c83,D4r c111Sub]
section
variable (c83:(List TQ)→(List (List (List TQ)))→Option Q4) (c111Sub:((List (List TQ))×(List (List TQ))×Unit)→Option B1t)
noncomputable def A6 (x0:(List TQ)) (x1:(List (List TQ))) (x2:(List (List TQ))):Option R64:=(c83 x0 ([x1,x2]:List (List (List TQ)))).bind fun r1=>(if r1≠0 then(some (([]:List (List TQ)),r1))else((c111Sub (x1,x2,())).bind fun r2=>(some (r2.1,r2.2))))
theorem e64 (s:D64.ask.T):D64.ev E0 (D4o c83 c111Sub) [] s=A6 c83 c111Sub s.1.1 s.1.2.1 s.1.2.2.1:=by kernel_rfl
end
noncomputable def D9T (c12:(List TQ)→(List (List (List TQ)))→Option R12) (c14:(List TQ)→(List (List TQ))→Option m4) (c16:Option R16) (c34:(List Int)→Option R34) (c38Arithmetic1:(List (List TQ))→Int→Int→((List (List TQ))×(List (List TQ))×Unit)→Option A9g) (c38Arithmetic2:(List (List TQ))→Int→Int→((List (List TQ))×(List (List TQ))×Unit)→Option B2b) (c38Arithmetic3:(List (List TQ))→Int→Int→((List TQ)×(List (List TQ))×(List (List TQ))×Unit)→Option B1Q) (c53:(List TQ)→(List (List TQ))→(List (List TQ))→Option R53) (c63:(List TQ)→(List (List TQ))→(List (List TQ))→Option R63) (c64:(List TQ)→(List (List TQ))→(List (List TQ))→Option R64):List FE:=[D4L c12,B6Y c14,D4Z c16,D3l c34,D1z c38Arithmetic1,D1J c38Arithmetic2,D4V c38Arithmetic3,D8u c53,D6X c63,D6i c64]
section
variable (c12:(List TQ)→(List (List (List TQ)))→Option R12) (c14:(List TQ)→(List (List TQ))→Option m4) (c16:Option R16) (c34:(List Int)→Option R34) (c38Arithmetic1:(List (List TQ))→Int→Int→((List (List TQ))×(List (List TQ))×Unit)→Option A9g) (c38Arithmetic2:(List (List TQ))→Int→Int→((List (List TQ))×(List (List TQ))×Unit)→Option B2b) (c38Arithmetic3:(List (List TQ))→Int→Int→((List TQ)×(List (List TQ))×(List (List TQ))×Unit)→Option B1Q) (c53:(List TQ)→(List (List TQ))→(List (List TQ))→Option R53) (c63:(List TQ)→(List (List TQ))→(List (List TQ))→Option R63) (c64:(List TQ)→(List (List TQ))→(List (List TQ))→Option R64)
noncomputable def B10 (x0:(List TQ)) (x1:(List (List TQ))) (x2:(List (List TQ))):Option R10:=(c12 x0 ([x1,x2]:List (List (List TQ)))).bind fun r1=>(B3 (r1) ((c16).bind fun r2=>(some r2)) ((c14 x0 x1).bind fun r3=>((c14 x0 x2).bind fun r4=>((c34 ([r3,r4]:List Int)).bind fun r5=>((c63 x0 x1 x2).bind fun r6=>((c64 x0 x1 x2).bind fun r7=>((c53 x0 x1 x2).bind fun r8=>((c38Arithmetic1 r6.1 r6.2 r5 (x1,x2,())).bind fun r9=>(B3 (r9) ((c38Arithmetic2 r7.1 r7.2 r5 (x1,x2,())).bind fun r10=>(B3 (r10) ((c38Arithmetic3 r8.1 r8.2 r5 (x0,x1,x2,())).bind fun r11=>(B3 (r11) ((c16).bind fun r12=>(some r12)) (some false))) (some false))) (some false))))))))))
theorem e10 (s:D10.ask.T):D10.ev E0 (D9T c12 c14 c16 c34 c38Arithmetic1 c38Arithmetic2 c38Arithmetic3 c53 c63 c64) [] s=B10 c12 c14 c16 c34 c38Arithmetic1 c38Arithmetic2 c38Arithmetic3 c53 c63 c64 s.1.1 s.1.2.1 s.1.2.2.1:=by kernel_rfl
end
end Go.Proofs.YtijohnkgomcdbaaGreatV
namespace Go.Proofs.YtijohnkgomcdbaaGreatE
open Go.RowKit Go.Proofs.YtijohnkgomcdbaaGreatW.PrintWords Go.Proofs.YtijohnkgomcdbaaGreatW.PrintLast Go.Proofs.YtijohnkgomcdbaaGreatW.PrintMore
section
variable {α β:Type}
theorem A0.iteL {p:Prop} [Decidable p] {a b t:Option α} (h1:p→A0 a t) (h2:¬p→A0 b t):A0 (if p then a else b) t:=by
 by_cases h:p
 ·rw [if_pos h];exact h1 h
 ·rw [if_neg h];exact h2 h
theorem A0.bindL {x:Option β} {f:β→Option α} {t:Option α} (h:∀v,x=some v→A0 (f v) t):A0 (x.bind f) t:=by
 cases hx:x with
 |none=>intro r hr;cases hr
 |some v=>exact h v hx
theorem A0.bindK {x:Option β} {v:β} {f:β→Option α} {t:Option α} (hx:x=some v) (h:A0 (f v) t):A0 (x.bind f) t:=by rw [hx];exact h
theorem A0.posL {p:Prop} [Decidable p] {t a b:Option α} (hp:p) (h:A0 a t):A0 (if p then a else b) t:=by rw [if_pos hp];exact h
theorem A0.negL {p:Prop} [Decidable p] {t a b:Option α} (hp:¬p) (h:A0 b t):A0 (if p then a else b) t:=by rw [if_neg hp];exact h
theorem A0.posR {p:Prop} [Decidable p] {t a b:Option α} (hp:p) (h:A0 t a):A0 t (if p then a else b):=by rw [if_pos hp];exact h
theorem A0.negR {p:Prop} [Decidable p] {t a b:Option α} (hp:¬p) (h:A0 t b):A0 t (if p then a else b):=by rw [if_neg hp];exact h
theorem A0.nnegR {p:Prop} [Decidable p] {t a b:Option α} (hp:p) (h:A0 t b):A0 t (if¬p then a else b):=by rw [if_neg (fun q=>q hp)];exact h
theorem A0.bindR {x:Option β} {v:β} {f:β→Option α} {t:Option α} (hx:x=some v) (h:A0 t (f v)):A0 t (x.bind f):=by rw [hx];exact h
theorem A0.ctR {b:Bool} {t x y:Option α} (hp:b=true) (h:A0 t x):A0 t (B3 b x y):=by rw [hp];exact h
theorem A0.cfR {b:Bool} {t x y:Option α} (hp:¬b=true) (h:A0 t y):A0 t (B3 b x y):=by
 rw [Bool.eq_false_iff.2 hp];exact h
theorem H3:ByteArray.empty=⟨#[]⟩:=id rfl
theorem H0 (x:Int):IntKind.u64.wrap (x%256)=x%256:=by
 show x%256%18446744073709551616=x%256
 omega
theorem G7 (b:Bool):(b=false)=¬(b=true):=by cases b<;>simp
theorem G9 {p q:Prop} [Decidable (p∧q)] [Decidable p] [Decidable q] (a b:α):(if p∧q then a else b)=if p then(if q then a else b)else b:=by
 by_cases h:p<;>by_cases k:q<;>simp [h,k]
theorem G4 {p q:Prop} [Decidable (p∨q)] [Decidable p] [Decidable q] (a b:α):(if p∨q then a else b)=if p then a else(if q then a else b):=by
 by_cases h:p<;>by_cases k:q<;>simp [h,k]
theorem m9 {τ:Type} (l:List τ) (i h:Int):slice_ l i h=(l.take h.toNat).drop i.toNat:=id rfl
theorem F3 (a:β) (f:β→Option α):(some a).bind f=f a:=id rfl
theorem i9 {γ:Type} (x:Option γ) (f:γ→Option β) (g:β→Option α):(x.bind f).bind g=x.bind fun y=>(f y).bind g:=by cases x<;>rfl
theorem W9 {p:Prop} [Decidable p] (x y:Option β) (f:β→Option α):(if p then x else y).bind f=if p then x.bind f else y.bind f:=by by_cases h:p<;>simp [h]
theorem H7 (l:List UInt8):l.isEmpty=(l==[]):=by cases l<;>rfl
theorem H2 (x:Int):IntKind.u8.wrap x=x%256:=id rfl
theorem H1 (a:Array UInt8):(⟨a⟩:ByteArray).toList=a.toList:=ByteArray.toList_eq _
theorem l9 (b:Bool) (x y:Option α):B3 b x y=if b=true then x else y:=by cases b<;>rfl
theorem H6 (x y:Int):(x==y)=decide (x=y):=id rfl
theorem BR {g:Prop} (h:g:=by
 (try simp only [E8,List.take_append_drop,List.drop_length,List.append_nil,Int.zero_sub,Int.toNat_natCast,Int.reduceToNat,Int.zero_add,List.take_zero,List.nil_append,List.append_assoc,List.length_set,W9,List.take_left,H3,bne,H6,decide_not,H0,if_true,if_false,Bool.false_eq_true,i9,m9,List.drop_zero,List.take_length,H2,F3,l9,C4,ite_not,Bool.and_eq_true,Bool.or_eq_true,Bool.not_eq_true',G7,Bool.not_eq_false',beq_iff_eq,decide_eq_true_eq,H7,G9,G4,ne_eq,H1,List.toList_toArray])
 repeat' first
 | (with_reducible exact A0.none _)
 | (with_reducible exact A0.refl _)
 | (with_reducible refine A0.posR (by with_reducible assumption) ?_)
 | (with_reducible refine A0.negR (by with_reducible assumption) ?_)
 | (with_reducible refine A0.nnegR (by with_reducible assumption) ?_)
 | (with_reducible refine A0.bindR (by with_reducible assumption) ?_)
 | (with_reducible refine A0.ctR (by with_reducible assumption) ?_)
 | (with_reducible refine A0.cfR (by with_reducible assumption) ?_)
 | (with_reducible refine A0.posL (by with_reducible assumption) ?_)
 | (with_reducible refine A0.negL (by with_reducible assumption) ?_)
 | (with_reducible refine A0.iteL (fun _=>?_) (fun _=>?_))
 | (with_reducible refine A0.bindK (by with_reducible assumption) ?_)
 | (with_reducible refine A0.bindL (fun _ _=>?_))
 | (refine A0.posR (by first|decide|exact Int.le_refl _|omega|assumption) ?_)
 | (refine A0.negR (by first|decide|omega) ?_)):g:=h
end
end Go.Proofs.YtijohnkgomcdbaaGreatE
namespace Go.Proofs.YtijohnkgomcdbaaGreatV
open Go Go.RowKit YtijohnkgomcdbaaGreat YtijohnkgomcdbaaGreatE
noncomputable abbrev M8 (k:Nat) (x0:Int) (x1:Int) (x2:Int):Option A4Z:=All.bits_Add64.f x0 x1 x2
noncomputable abbrev d5 (k:Nat) (x0:Int) (x1:Int) (x2:Int):Option A7A:=All.bits_Sub64.f x0 x1 x2
noncomputable abbrev B3z (k:Nat) (x0:Int):Option B4X:=All.bits_Len64.f x0
noncomputable abbrev M1 (k:Nat) (y0:List Int):Option m6:=(All.exact_trim.f k y0).bind fun r=>some ((r.length:Int),r++y0.drop r.length)
noncomputable abbrev f8 (k:Nat) (y0:List Int):Option A0j:=(All.galoisref01_trim.f k y0).bind fun r=>some ((r.length:Int),r++y0.drop r.length)
noncomputable abbrev u9 (k:Nat) (x1:List Int) (y0:List Int):Option A2U:=(All.galoisref01_below.f k y0 x1).bind fun r=>some (r,y0)
noncomputable abbrev A3V (k:Nat) (x0:(List TQ)):Option B5c:=A6R x0
end Go.Proofs.YtijohnkgomcdbaaGreatV
set_option maxRecDepth 100000
namespace Go.Proofs.YtijohnkgomcdbaaGreatV
open Go Go.RowKit YtijohnkgomcdbaaGreat YtijohnkgomcdbaaGreatE YtijohnkgomcdbaaGreatW.PrintWords YtijohnkgomcdbaaGreatW.PrintLast YtijohnkgomcdbaaGreatW.PrintMore
noncomputable abbrev S6 (k:Nat) (x0:(List TQ)):Option R15:=B15 x0
noncomputable abbrev A5V (k:Nat) (x0:TI):Option A9k:=All.galoisref02_Sign.f x0.1 x0.2
noncomputable abbrev Q5 (k:Nat) (x0:TQ):Option A5Y:=B4S (A5V k) x0
noncomputable abbrev d7 (k:Nat) (x0:ByteArray):Option A6s:=All.galoisref01_Valid.f x0
noncomputable abbrev A0I (k:Nat) (x0:TI):Option B1A:=All.galoisref02_Valid.f x0.1 x0.2
noncomputable abbrev v8 (k:Nat) (x0:ByteArray):Option A6j:=All.galoisref01_Fits.f x0
noncomputable abbrev A3O (k:Nat) (x0:TI):Option B1o:=All.galoisref02_Fits.f x0.1 x0.2
noncomputable abbrev b9 (k:Nat) (x0:TQ):Option B2m:=B0d (A3O k) (v8 k) x0
noncomputable abbrev I2 (k:Nat) (x0:(List Int)):Option Q8:=All.galoisref01_pack.f k x0
noncomputable abbrev J8 (k:Nat) (x0:ByteArray):Option T4:=All.galoisref01_limbs.f k x0
noncomputable abbrev v9 (k:Nat) (x0:ByteArray) (x1:ByteArray):Option T5:=All.galoisref01_DivMod.f k x0 x1
noncomputable abbrev Y5 (k:Nat) (x0:ByteArray) (x1:ByteArray):Option A0H:=All.galoisref01_Gcd.f k x0 x1
noncomputable abbrev L7 (k:Nat) (x0:TQ):Option A6d:=A4X (A0I k) (d7 k) (b9 k) (Y5 k) x0
noncomputable def A0E:Nat→(List TQ)→(List TQ)→Int→Int→Option o9
 |0,_,_,_,_=>none
 |k+1,x0,x9,x10,x11=>A9F (A0E k) (Q5 k) (L7 k) x0 x9 x10 x11
noncomputable abbrev T7 (k:Nat) (x0:(List TQ)):Option o9:=B69 (A0E k) x0
noncomputable abbrev A7W (k:Nat) (x0:Int):Option B1P:=All.galoisref01_Of.f k x0
noncomputable abbrev A5g (k:Nat) (x0:Int):Option B1e:=All.galoisref02_FromInt.f k x0
noncomputable abbrev E6 (k:Nat) (x0:Int):Option Y4:=B81 (A5g k) x0
noncomputable abbrev Z0 (k:Nat) (x0:(List TQ)):Option R80:=B80 (E6 k) x0
noncomputable abbrev A1e (k:Nat) (x0:TQ):Option R82:=B82 x0
noncomputable def A0t:Nat→(List TQ)→Int→Int→(List TQ)→Option W0
 |0,_,_,_,_=>none
 |k+1,x24,x25,x26,x1=>A6w (A0t k) (S6 k) (A1e k) x24 x25 x26 x1
noncomputable abbrev K0 (k:Nat) (x0:(List TQ)):Option W0:=B13 (A0t k) (T7 k) (Z0 k) (E6 k) x0
noncomputable abbrev A2W (k:Nat) (x0:(List TQ)) (x1:(List TQ)):Option R55:=B55 (K0 k) (S6 k) (T7 k) x0 x1
noncomputable def A0e:Nat→(List (List TQ))→(List (List TQ))→Int→Int→(List TQ)→Option m4
 |0,_,_,_,_,_=>none
 |k+1,x1,x16,x17,x18,x2=>A9Y (A0e k) (A2W k) x1 x16 x17 x18 x2
noncomputable abbrev S1 (k:Nat) (x0:(List TQ)) (x1:(List (List TQ))):Option m4:=B14 (A0e k) (K0 k) x0 x1
noncomputable def A0X:Nat→(List TQ)→Int→Int→Option R70
 |0,_,_,_=>none
 |k+1,x17,x18,x19=>A8K (A0X k) x17 x18 x19
noncomputable abbrev A5J (k:Nat) (x0:(List TQ)) (x1:Int):Option R70:=B70 (A0X k) (T7 k) x0 x1
noncomputable abbrev A2t (k:Nat) (x0:(List TQ)) (x1:(List TQ)):Option R49:=B49 (K0 k) (S6 k) (A5J k) x0 x1
noncomputable def A0h:Nat→(List TQ)→Int→Int→Option R79
 |0,_,_,_=>none
 |k+1,x19,x20,x21=>A7T (A0h k) x19 x20 x21
noncomputable abbrev Z5 (k:Nat) (x0:(List TQ)) (x1:Int):Option R79:=B79 (A0h k) (K0 k) x0 x1
noncomputable def z8:Nat→(List (List TQ))→Int→Int→(List TQ)→Option R26
 |0,_,_,_,_=>none
 |k+1,x28,x29,x30,x4=>A8b (z8 k) (A2t k) x28 x29 x30 x4
noncomputable abbrev A2h (k:Nat) (x0:(List TQ)) (x1:(List (List TQ))) (x2:Int) (x3:Int):Option R26:=B26 (z8 k) (S1 k) (Z5 k) x0 x1 x2 x3
noncomputable def A0R:Nat→(List (List (List TQ)))→Int→Int→(List TQ)→Option R12
 |0,_,_,_,_=>none
 |k+1,x10,x11,x12,x2=>A8t (A0R k) (S1 k) (A2h k) (Z5 k) x10 x11 x12 x2
noncomputable abbrev A4I (k:Nat) (x0:(List TQ)) (x1:(List (List (List TQ)))):Option R12:=B12 (A0R k) (K0 k) x0 x1
noncomputable abbrev R9 (k:Nat) (x0:TI):Option A3Q:=A2y x0
noncomputable abbrev A0n (k:Nat) (x0:(List Int)):Option A1k:=All.exact_trim.f k x0
noncomputable abbrev H4 (k:Nat) (x0:(List Int)):Option K8:=All.exact_pack.f k x0
noncomputable abbrev A8c (k:Nat) (x0:Int):Option B1j:=All.exact_NatOf.f k x0
noncomputable abbrev A5s (k:Nat) (x0:Int):Option B2q:=All.exact_IntOf.f k x0
noncomputable abbrev E2 (k:Nat) (x0:Int):Option X8:=B89 (R9 k) (A5s k) x0
noncomputable abbrev I5 (k:Nat) (x0:TQ):Option A1F:=C2q x0
noncomputable abbrev V8 (k:Nat) (x0:ByteArray):Option A5u:=All.natural_Check.f k x0
noncomputable abbrev A9A (k:Nat):Option B2l:=All.integer_zero.f
noncomputable abbrev t4 (k:Nat) (x0:TI):Option B0h:=All.integer_Check.f k x0.1 x0.2
noncomputable abbrev I8 (k:Nat) (x0:ByteArray):Option V4:=All.exact_words.f k x0
noncomputable abbrev A0C (k:Nat) (x0:(List Int)) (x1:(List Int)):Option A2A:=All.exact_compareWords.f k x0 x1
noncomputable abbrev U9 (k:Nat) (x0:Int):Option A6K:=All.bits_LeadingZeros64.f x0
noncomputable abbrev R2 (k:Nat) (x0:Int) (x1:Int) (x2:Int):Option f9:=All.bits_Div64.f k x0 x1 x2
noncomputable abbrev A1C (k:Nat) (x0:(List Int)) (x1:Int):Option A2u:=All.exact_shiftUp.f k x0 x1
noncomputable abbrev R6 (k:Nat) (x0:Int) (x1:Int):Option A6c:=All.bits_Mul64.f x0 x1
noncomputable abbrev A0r (k:Nat) (x1:(List Int)) (y0:(List Int)):Option X1:=All.exact_step.f k y0 x1
noncomputable abbrev A0G (k:Nat) (x0:(List Int)) (x1:(List Int)):Option V3:=All.exact_divide.f k x0 x1
noncomputable abbrev T8 (k:Nat) (x0:ByteArray) (x1:ByteArray):Option z5:=All.exact_NatGcd.f k x0 x1
noncomputable abbrev N1 (k:Nat) (x0:TQ):Option B0A:=A2i (t4 k) (V8 k) (T8 k) x0
noncomputable def A0w:Nat→(List TQ)→(List TQ)→Int→Int→Option A0U
 |0,_,_,_,_=>none
 |k+1,x0,x9,x10,x11=>A7x (A0w k) (I5 k) (N1 k) x0 x9 x10 x11
noncomputable abbrev w7 (k:Nat) (x0:(List TQ)):Option A0U:=B3q (A0w k) x0
noncomputable abbrev A7t (k:Nat) (x0:TQ):Option B0v:=C5c x0
noncomputable abbrev A2L (k:Nat) (x0:TQ):Option B2J:=C2L (A7t k) x0
noncomputable def A0k:Nat→(List TQ)→Int→Int→Option A2p
 |0,_,_,_=>none
 |k+1,x0,x7,x8=>A8Z (A0k k) (A2L k) x0 x7 x8
noncomputable abbrev A5z (k:Nat) (x0:(List TQ)):Option A2p:=B4m (A0k k) x0
noncomputable abbrev A5Q (k:Nat) (x0:(List TQ)):Option B0C:=C6Z (A5z k) x0
noncomputable abbrev A3v (k:Nat) (x0:(List TQ)):Option A9a:=B5o (E2 k) (w7 k) (A5Q k) x0
noncomputable abbrev o3 (k:Nat) (x0:(List TQ)) (x1:(List TQ)):Option A6F:=B3F (w7 k) x0 x1
noncomputable def A0D:Nat→(List (List TQ))→(List (List TQ))→Int→Int→(List TQ)→Option A2J
 |0,_,_,_,_,_=>none
 |k+1,x1,x11,x12,x13,x2=>A9R (A0D k) (o3 k) x1 x11 x12 x13 x2
noncomputable abbrev A1y (k:Nat) (x0:(List TQ)) (x1:(List (List TQ))):Option A2J:=B3w (A0D k) x0 x1
noncomputable def A0y:Nat→(List (List (List TQ)))→Int→Int→(List TQ)→Option Q4
 |0,_,_,_,_=>none
 |k+1,x14,x15,x16,x2=>A8R (A0y k) (A1y k) x14 x15 x16 x2
noncomputable abbrev F8 (k:Nat) (x0:(List TQ)) (x1:(List (List (List TQ)))):Option Q4:=B83 (A0y k) (A3v k) x0 x1
noncomputable abbrev A0S (k:Nat) (x0:(List Int)) (x1:(List Int)):Option e9:=All.exact_mulWords.f k x0 x1
noncomputable abbrev S9 (k:Nat) (x0:ByteArray) (x1:ByteArray):Option A3a:=All.exact_NatMul.f k x0 x1
noncomputable abbrev K6 (k:Nat) (x0:Bool) (x1:ByteArray):Option i4:=All.exact_IntMake.f x0 x1
noncomputable abbrev A3N (k:Nat) (x0:TI) (x1:TI):Option B0P:=All.exact_IntMul.f k x0.1 x0.2 x1.1 x1.2
noncomputable abbrev A5H (k:Nat) (x0:ByteArray) (x1:ByteArray):Option B0K:=All.exact_NatDivMod.f k x0 x1
noncomputable abbrev a9 (k:Nat) (x0:TI) (x1:TI):Option A6Y:=B3P (K6 k) (T8 k) (A5H k) x0 x1
noncomputable abbrev F0 (k:Nat) (x0:TQ) (x1:TQ):Option v4:=B1d (R9 k) (A3N k) (a9 k) (S9 k) x0 x1
noncomputable abbrev A2I (k:Nat) (x0:ByteArray) (x1:Int):Option A0i:=All.exact_NatPow.f k x0 x1
noncomputable abbrev A7H (k:Nat) (x0:TI) (x1:Int):Option B2i:=C1P (A2I k) (K6 k) x0 x1
noncomputable abbrev A5k (k:Nat) (x0:TQ) (x1:Int):Option B0u:=C1j (A7H k) (A2I k) x0 x1
noncomputable abbrev A6Z (k:Nat) (x0:TI):Option B2I:=All.exact_IntNeg.f x0.1 x0.2
noncomputable abbrev m8 (k:Nat) (x0:TQ):Option A6V:=B9t (A6Z k) x0
noncomputable abbrev A8N (k:Nat) (x0:ByteArray) (x1:ByteArray):Option A2H:=All.exact_NatAdd.f k x0 x1
noncomputable abbrev A9S (k:Nat) (x0:ByteArray) (x1:ByteArray):Option B0O:=All.exact_NatCmp.f k x0 x1
noncomputable abbrev A8X (k:Nat) (x0:ByteArray) (x1:ByteArray):Option A2r:=All.exact_NatSub.f k x0 x1
noncomputable abbrev A3u (k:Nat) (x0:TI) (x1:TI):Option B2D:=All.exact_IntAdd.f k x0.1 x0.2 x1.1 x1.2
noncomputable abbrev J9 (k:Nat) (x0:TQ) (x1:TQ):Option A3A:=B2H (R9 k) (a9 k) (S9 k) (A3u k) (K6 k) x0 x1
noncomputable abbrev L5 (k:Nat) (x0:TQ) (x1:TQ):Option R88:=B88 (m8 k) (J9 k) x0 x1
noncomputable def z7:Nat→(List TQ)→Int→Option R3
 |0,_,_=>none
 |k+1,x0,x3=>A7U (z7 k) (I5 k) x0 x3
noncomputable abbrev D9 (k:Nat) (x0:(List TQ)):Option R3:=B92 (z7 k) x0
noncomputable abbrev Q2 (k:Nat) (x0:TQ):Option A2x:=B9v x0
noncomputable abbrev C6J (k:Nat) (x0:(List TQ)):Option B7G:=C6t x0
noncomputable abbrev C2x (k:Nat) (x0:(List TQ)):Option B6f:=A6R x0
mutual
noncomputable def q8:Nat→(List TQ)→(List TQ)→Int→Int→Int→(List TQ)→(List TQ)→Option Q9
 |0,_,_,_,_,_,_,_=>none
 |k+1,x0,x1,x7,x30,x31,x6,x8=>A8A (q8 k) (R8 k) (E2 k) (Q2 k) x0 x1 x7 x30 x31 x6 x8
noncomputable def R8:Nat→(List TQ)→Int→Int→(List TQ)→(List TQ)→TQ→Option Q9
 |0,_,_,_,_,_,_=>none
 |k+1,x1,x7,x11,x6,x8,x10=>A7K (R8 k) (i5 k) (D9 k) (F0 k) (I5 k) x1 x7 x11 x6 x8 x10
noncomputable def i5:Nat→(List TQ)→Int→Int→Int→Int→(List TQ)→(List TQ)→TQ→TQ→Option Q9
 |0,_,_,_,_,_,_,_,_,_=>none
 |k+1,x1,x7,x11,x69,x70,x6,x8,x10,x12=>A8F (R8 k) (i5 k) (L5 k) (F0 k) x1 x7 x11 x69 x70 x6 x8 x10 x12
end
noncomputable abbrev W3 (k:Nat) (x0:(List TQ)) (x1:(List TQ)):Option Q9:=B3T (q8 k) (A3V k) x0 x1
noncomputable def A4P:Nat→(List TQ)→(List TQ)→TQ→TQ→Option R84
 |0,_,_,_,_=>none
 |k+1,x0,x1,x4,x5=>C1C (A4P k) (E2 k) (F0 k) (A5k k) (W3 k) (m8 k) x0 x1 x4 x5
noncomputable abbrev A2o (k:Nat) (x0:(List TQ)) (x1:(List TQ)):Option R84:=B84 (A4P k) (E2 k) x0 x1
noncomputable abbrev Y3 (k:Nat) (x0:(List TQ)) (x1:Int):Option A5r:=B3t (E2 k) x0 x1
noncomputable def A0v:Nat→(List TQ)→(List TQ)→Int→Int→(List TQ)→Option g7
 |0,_,_,_,_,_=>none
 |k+1,x0,x1,x14,x15,x5=>A9I (A0v k) (D9 k) (J9 k) (Y3 k) x0 x1 x14 x15 x5
noncomputable abbrev J3 (k:Nat) (x0:(List TQ)) (x1:(List TQ)):Option g7:=B90 (A0v k) x0 x1
mutual
noncomputable def s8:Nat→(List TQ)→(List TQ)→Int→Int→(List TQ)→Option O9
 |0,_,_,_,_,_=>none
 |k+1,x0,x1,x27,x28,x5=>A7s (s8 k) (S8 k) (E2 k) x0 x1 x27 x28 x5
noncomputable def S8:Nat→(List TQ)→(List TQ)→Int→Int→(List TQ)→Option O9
 |0,_,_,_,_,_=>none
 |k+1,x1,x36,x37,x38,x5=>A7d (S8 k) (i6 k) (D9 k) (I5 k) x1 x36 x37 x38 x5
noncomputable def i6:Nat→(List TQ)→Int→(List TQ)→Int→Int→(List TQ)→Int→Int→(List TQ)→TQ→Option O9
 |0,_,_,_,_,_,_,_,_,_,_=>none
 |k+1,x1,x7,x36,x37,x38,x45,x46,x47,x5,x8=>A9G (S8 k) (i6 k) (F0 k) (J9 k) x1 x7 x36 x37 x38 x45 x46 x47 x5 x8
end
noncomputable abbrev L3 (k:Nat) (x0:(List TQ)) (x1:(List TQ)):Option O9:=B91 (s8 k) x0 x1
noncomputable abbrev O8 (k:Nat) (x0:(List TQ)) (x1:(List TQ)):Option A3z:=B3A (W3 k) x0 x1
noncomputable abbrev U3 (k:Nat) (x0:(List TQ)) (x1:(List TQ)) (x2:(List TQ)):Option A3j:=C7D (L3 k) (O8 k) x0 x1 x2
noncomputable def A4u:Nat→(List (List TQ))→(List TQ)→(List TQ)→Int→(List TQ)→Option R85
 |0,_,_,_,_,_=>none
 |k+1,x1,x2,x7,x8,x3=>C2G (A4u k) (J3 k) (U3 k) x1 x2 x7 x8 x3
noncomputable abbrev A1v (k:Nat) (x0:(List TQ)) (x1:(List (List TQ))) (x2:(List TQ)):Option R85:=B85 (A4u k) x0 x1 x2
noncomputable def A4s:Nat→(List Int)→Int→Int→(List TQ)→Option c8
 |0,_,_,_,_=>none
 |k+1,x9,x10,x11,x3=>D0A (A4s k) (E2 k) (D9 k) x9 x10 x11 x3
noncomputable abbrev M9 (k:Nat) (x0:(List Int)):Option c8:=B86 (A4s k) x0
noncomputable abbrev A2E (k:Nat) (x0:TQ) (x1:TQ):Option R87:=B87 (F0 k) (Q2 k) x0 x1
noncomputable abbrev A2X (k:Nat) (x0:TQ):Option B1R:=B5e x0
noncomputable def A0s:Nat→(List TQ)→Int→Int→Option A2e
 |0,_,_,_=>none
 |k+1,x0,x7,x8=>A9W (A0s k) (A2X k) x0 x7 x8
noncomputable abbrev A6I (k:Nat) (x0:(List TQ)):Option A2e:=B5a (A0s k) x0
noncomputable abbrev A1L (k:Nat) (x0:(List TQ)):Option A6l:=C4g (A6I k) x0
noncomputable abbrev A2b (k:Nat) (x0:(List TQ)):Option R93:=B93 (A1L k) x0
mutual
noncomputable def A1W:Nat→(List (List TQ))→Int→Int→Int→(List TQ)→(List TQ)→Option Q6
 |0,_,_,_,_,_,_=>none
 |k+1,x1,x7,x38,x39,x2,x8=>C5v (A1W k) (A1O k) (A2o k) (A1v k) (M9 k) x1 x7 x38 x39 x2 x8
noncomputable def A1O:Nat→Int→Int→(List TQ)→Option Q6
 |0,_,_,_=>none
 |k+1,x7,x10,x8=>C6l (A1R k) (A1V k) x7 x10 x8
noncomputable def A1R:Nat→Int→Int→Int→(List TQ)→Option Q6
 |0,_,_,_,_=>none
 |k+1,x7,x10,x11,x8=>C4U (A1O k) (A1R k) (A2E k) (L5 k) (E2 k) x7 x10 x11 x8
noncomputable def A1V:Nat→(List TQ)→Int→(List TQ)→Option Q6
 |0,_,_,_=>none
 |k+1,x12,x13,x8=>C8B (A1V k) (M9 k) (J3 k) (L3 k) (D9 k) (A2b k) x12 x13 x8
end
noncomputable abbrev A8k (k:Nat) (x0:(List TQ)) (x1:(List (List TQ))):Option Q6:=B17 (A1W k) (F8 k) x0 x1
noncomputable def A0a:Nat→(List TQ)→(List TQ)→Int→Int→Option R18
 |0,_,_,_,_=>none
 |k+1,x0,x1,x12,x13=>A8u (A0a k) x0 x1 x12 x13
noncomputable abbrev n6 (k:Nat) (x0:(List TQ)) (x1:(List TQ)):Option R18:=B18 (A0a k) x0 x1
noncomputable def A0L:Nat→(List TQ)→Int→Option S4
 |0,_,_=>none
 |k+1,x0,x3=>A9X (A0L k) (Q5 k) x0 x3
noncomputable abbrev F1 (k:Nat) (x0:(List TQ)):Option S4:=B48 (A0L k) x0
noncomputable def A4f:Nat→(List Int)→Int→Int→(List TQ)→Option R22
 |0,_,_,_,_=>none
 |k+1,x6,x7,x8,x3=>D0n (A4f k) (F1 k) (E6 k) x6 x7 x8 x3
noncomputable abbrev A8J (k:Nat) (x0:(List Int)):Option R22:=B22 (A4f k) x0
noncomputable def A5R:Nat→(List TQ)→Int→Int→TQ→(List TQ)→Option A1Z
 |0,_,_,_,_,_=>none
 |k+1,x11,x12,x13,x3,x5=>C1G (A5R k) (D9 k) (F0 k) x11 x12 x13 x3 x5
noncomputable abbrev A5e (k:Nat) (x0:(List TQ)) (x1:TQ):Option A1Z:=C5G (A5R k) x0 x1
noncomputable def z6:Nat→(List TQ)→(List TQ)→Int→Int→(List TQ)→Option o4
 |0,_,_,_,_,_=>none
 |k+1,x0,x1,x14,x15,x5=>A8Y (z6 k) (L5 k) (D9 k) (Y3 k) x0 x1 x14 x15 x5
noncomputable abbrev S0 (k:Nat) (x0:(List TQ)) (x1:(List TQ)):Option o4:=B5V (z6 k) x0 x1
noncomputable def A5N:Nat→(List TQ)→(List TQ)→(List TQ)→(List TQ)→(List TQ)→Option A0g
 |0,_,_,_,_,_=>none
 |k+1,x0,x6,x7,x8,x9=>C5f (A5N k) (L3 k) (A5e k) (W3 k) (Q2 k) (O8 k) (S0 k) x0 x6 x7 x8 x9
noncomputable abbrev A1p (k:Nat) (x0:(List TQ)) (x1:(List TQ)):Option A0g:=C8G (A5N k) (M9 k) (O8 k) x0 x1
noncomputable def A0N:Nat→(List (List TQ))→Int→Option T6
 |0,_,_=>none
 |k+1,x0,x3=>A6v (A0N k) x0 x3
noncomputable abbrev E7 (k:Nat) (x0:(List (List TQ))):Option T6:=B2x (A0N k) x0
mutual
noncomputable def A1H:Nat→(List (List TQ))→(List TQ)→Int→Int→(List TQ)→(List (List TQ))→(List (List TQ))→Option a8
 |0,_,_,_,_,_,_,_=>none
 |k+1,x2,x3,x11,x13,x4,x10,x12=>C5C (A1H k) (A3m k) (E7 k) (U3 k) x2 x3 x11 x13 x4 x10 x12
noncomputable def A3m:Nat→(List (List TQ))→(List TQ)→Int→Int→(List TQ)→Int→Int→(List TQ)→(List (List TQ))→(List (List TQ))→Option a8
 |0,_,_,_,_,_,_,_,_,_,_=>none
 |k+1,x2,x3,x11,x13,x14,x60,x61,x4,x10,x12=>C2Q (A1H k) (A3m k) (U3 k) (S0 k) x2 x3 x11 x13 x14 x60 x61 x4 x10 x12
end
noncomputable abbrev A1J (k:Nat) (x0:(List TQ)) (x1:(List (List TQ))) (x2:(List (List TQ))) (x3:(List TQ)):Option a8:=C6K (A1H k) (E7 k) x0 x1 x2 x3
noncomputable abbrev A1Y (k:Nat) (x0:(List TQ)):Option A9x:=D0y (A1L k) x0
noncomputable def A0W:Nat→(List (List TQ))→Int→Int→Option A2v
 |0,_,_,_=>none
 |k+1,x0,x7,x8=>A7e (A0W k) (A1Y k) x0 x7 x8
noncomputable abbrev A5c (k:Nat) (x0:(List (List TQ))):Option A2v:=B5l (A0W k) x0
noncomputable abbrev A8O (k:Nat) (x0:(List (List TQ))):Option B2r:=C7S (A5c k) x0
noncomputable abbrev A4g (k:Nat) (x0:(List (List TQ))):Option B2S:=C2m (A8O k) x0
noncomputable abbrev K4 (k:Nat) (x0:(List (List TQ))):Option i8:=B5M (A4g k) x0
noncomputable abbrev A7O (k:Nat) (x0:(List TQ)) (x1:(List (List TQ))) (x2:(List (List TQ))):Option R28:=B28 (F8 k) (A1p k) (A1J k) (K4 k) x0 x1 x2
noncomputable def A0p:Nat→(List (List TQ))→(List (List TQ))→Int→Int→Option Z8
 |0,_,_,_,_=>none
 |k+1,x0,x1,x12,x13=>A7B (A0p k) (n6 k) x0 x1 x12 x13
noncomputable abbrev N5 (k:Nat) (x0:(List (List TQ))) (x1:(List (List TQ))):Option Z8:=B29 (A0p k) x0 x1
noncomputable def A4V:Nat→(List TQ)→(List (List TQ))→Int→Int→(List TQ)→(List (List TQ))→Option A1a
 |0,_,_,_,_,_,_=>none
 |k+1,x2,x13,x14,x15,x3,x7=>C3h (A4V k) (E7 k) (U3 k) x2 x13 x14 x15 x3 x7
noncomputable abbrev A8Q (k:Nat) (x0:(List TQ)) (x1:(List (List TQ))) (x2:(List TQ)):Option A1a:=C9M (A4V k) x0 x1 x2
noncomputable abbrev A6L (k:Nat) (x0:(List TQ)) (x1:(List (List TQ))):Option B0E:=C9Y (A1p k) (A8Q k) x0 x1
noncomputable abbrev A7j (k:Nat) (x0:(List (List TQ))):Option B2n:=C8u x0
noncomputable abbrev A5X (k:Nat) (x0:((List (List TQ))×Unit)):Option B0k:=C1x (K4 k) (A7j k) x0
noncomputable def A4L:Nat→(List TQ)→((List (List TQ))×(List (List TQ)))→Option R31
 |0,_,_=>none
 |k+1,x3,x9=>C8X (A4L k) (M9 k) (A1J k) (A6L k) (A5X k) x3 x9
noncomputable abbrev A7u (k:Nat) (x0:(List TQ)) (x1:(List (List TQ))) (x2:(List (List TQ))):Option R31:=B31 (A4L k) (F8 k) x0 x1 x2
noncomputable abbrev X4 (k:Nat) (x0:(List (List TQ))) (x1:Int):Option A6h:=B3X x0 x1
noncomputable def A1B:Nat→(List (List TQ))→(List (List TQ))→Int→Int→(List (List TQ))→Option A0o
 |0,_,_,_,_,_=>none
 |k+1,x0,x1,x14,x15,x5=>A8U (A1B k) (J3 k) (E7 k) (X4 k) x0 x1 x14 x15 x5
noncomputable abbrev v6 (k:Nat) (x0:(List (List TQ))) (x1:(List (List TQ))):Option A0o:=B4p (A1B k) x0 x1
mutual
noncomputable def o8:Nat→(List (List TQ))→(List (List TQ))→Int→Int→(List TQ)→(List (List TQ))→Option T3
 |0,_,_,_,_,_,_=>none
 |k+1,x2,x28,x29,x30,x3,x7=>A8j (j8 k) (f7 k) x2 x28 x29 x30 x3 x7
noncomputable def j8:Nat→(List (List TQ))→Int→(List TQ)→(List (List TQ))→Int→Int→(List (List TQ))→Int→Int→(List TQ)→(List (List TQ))→Option T3
 |0,_,_,_,_,_,_,_,_,_,_,_=>none
 |k+1,x2,x8,x9,x28,x29,x30,x35,x36,x37,x3,x7=>A8h (o8 k) (j8 k) (J3 k) (L3 k) x2 x8 x9 x28 x29 x30 x35 x36 x37 x3 x7
noncomputable def f7:Nat→Int→Int→(List TQ)→(List (List TQ))→Option T3
 |0,_,_,_,_=>none
 |k+1,x60,x61,x3,x7=>A8L (f7 k) (E7 k) (O8 k) x60 x61 x3 x7
end
noncomputable abbrev v3 (k:Nat) (x0:(List TQ)) (x1:(List (List TQ))) (x2:(List (List TQ))):Option T3:=B3L (o8 k) x0 x1 x2
noncomputable def A5S:Nat→(List (List TQ))→(List TQ)→(List (List TQ))→(List (List TQ))→Int→Option A2a
 |0,_,_,_,_,_=>none
 |k+1,x1,x2,x4,x5,x6=>C5d (A5S k) (E7 k) (v6 k) (v3 k) x1 x2 x4 x5 x6
noncomputable abbrev A7r (k:Nat) (x0:(List TQ)) (x1:(List (List TQ))) (x2:(List TQ)):Option A2a:=C2F (A5S k) (M9 k) (E7 k) x0 x1 x2
noncomputable abbrev A8n (k:Nat) (x0:((List TQ)×(List (List TQ))×(List TQ)×Unit)):Option B1i:=C3v (K4 k) (A7r k) x0
noncomputable abbrev A8I (k:Nat) (x0:(List TQ)) (x1:(List (List TQ))) (x2:(List TQ)):Option R50:=B50 (F8 k) (A8n k) (o3 k) x0 x1 x2
noncomputable abbrev A3T (k:Nat):Option R16:=B16 (A8k k) (n6 k) (A8J k) (A7O k) (N5 k) (A7u k) (A8I k)
noncomputable def z9:Nat→(List Int)→Int→Int→Option R34
 |0,_,_,_=>none
 |k+1,x5,x6,x7=>A7m (z9 k) x5 x6 x7
noncomputable abbrev A5I (k:Nat) (x0:(List Int)):Option R34:=B34 (z9 k) x0
noncomputable def A0q:Nat→(List TQ)→Int→Int→Option A2V
 |0,_,_,_=>none
 |k+1,x6,x7,x8=>A7Z (A0q k) (L7 k) x6 x7 x8
noncomputable abbrev A2O (k:Nat) (x0:(List TQ)):Option A2V:=B3K (A0q k) x0
noncomputable def A0Y:Nat→(List (List TQ))→Int→Int→Option m7
 |0,_,_,_=>none
 |k+1,x9,x10,x11=>A7g (A0Y k) (A2O k) x9 x10 x11
noncomputable abbrev Q7 (k:Nat) (x0:(List (List TQ))):Option m7:=B44 (A0Y k) x0
noncomputable abbrev c9 (k:Nat) (x0:TI):Option A6G:=A4R x0
noncomputable abbrev j5 (k:Nat) (x0:Bool) (x1:ByteArray):Option A3G:=All.galoisref02_Make.f x0 x1
noncomputable abbrev A7Q (k:Nat) (x0:ByteArray) (x1:ByteArray):Option A2q:=All.galoisref01_Add.f k x0 x1
noncomputable abbrev A0T (k:Nat) (x0:ByteArray) (x1:ByteArray):Option A6N:=All.galoisref01_Compare.f k x0 x1
noncomputable abbrev A9U (k:Nat) (x0:ByteArray) (x1:ByteArray):Option A2B:=All.galoisref01_Sub.f k x0 x1
noncomputable abbrev A4B (k:Nat) (x0:TI) (x1:TI):Option A9q:=All.galoisref02_Add.f k x0.1 x0.2 x1.1 x1.2
noncomputable abbrev A8m (k:Nat) (x0:ByteArray) (x1:ByteArray):Option q9:=All.galoisref01_Mul.f k x0 x1
noncomputable abbrev Z7 (k:Nat) (x0:TI) (x1:TI):Option A5m:=All.galoisref02_Mul.f k x0.1 x0.2 x1.1 x1.2
noncomputable abbrev b8 (k:Nat) (x0:TQ):Option A6P:=A4S x0
noncomputable abbrev o5 (k:Nat) (x0:TI) (x1:TI):Option A5h:=B5u (Y5 k) (j5 k) (v9 k) x0 x1
noncomputable abbrev O6 (k:Nat) (x0:TQ) (x1:TQ):Option A5G:=A9s (c9 k) (A4B k) (Z7 k) (b8 k) (o5 k) x0 x1
noncomputable abbrev A2w (k:Nat) (x0:(List TQ)) (x1:Int):Option A7b:=B4l (E6 k) x0 x1
noncomputable def A0A:Nat→(List TQ)→(List TQ)→Int→(List TQ)→Option X3
 |0,_,_,_,_=>none
 |k+1,x0,x1,x6,x5=>A7h (A0A k) (F1 k) (O6 k) (A2w k) x0 x1 x6 x5
noncomputable abbrev K9 (k:Nat) (x0:(List TQ)) (x1:(List TQ)):Option X3:=B20 (A0A k) x0 x1
noncomputable abbrev X6 (k:Nat) (x0:(List (List TQ))) (x1:Int):Option A5t:=B5P x0 x1
noncomputable def A0J:Nat→(List (List TQ))→Int→Option n7
 |0,_,_=>none
 |k+1,x0,x3=>A8H (A0J k) x0 x3
noncomputable abbrev N4 (k:Nat) (x0:(List (List TQ))):Option n7:=B3U (A0J k) x0
noncomputable def A0F:Nat→(List (List TQ))→(List (List TQ))→Int→(List (List TQ))→Option R23
 |0,_,_,_,_=>none
 |k+1,x0,x1,x6,x5=>A9N (A0F k) (K9 k) (X6 k) (N4 k) x0 x1 x6 x5
noncomputable abbrev A4z (k:Nat) (x0:(List (List TQ))) (x1:(List (List TQ))):Option R23:=B23 (A0F k) x0 x1
noncomputable abbrev A3X (k:Nat) (x0:(List (List TQ))) (x1:(List (List TQ))):Option R65:=B65 (A4z k) x0 x1
noncomputable abbrev A3P (k:Nat) (x0:(List (List TQ))) (x1:Int) (x2:Int) (x3:((List (List TQ))×(List (List TQ))×Unit)):Option A9g:=A8D (N5 k) (Q7 k) (A3X k) x0 x1 x2 x3
noncomputable abbrev M0 (k:Nat) (x0:TQ) (x1:TQ):Option A3y:=A9z (c9 k) (Z7 k) (b8 k) (o5 k) x0 x1
noncomputable def A0Q:Nat→(List TQ)→Int→Int→TQ→(List TQ)→Option R98
 |0,_,_,_,_,_=>none
 |k+1,x8,x9,x10,x3,x5=>A7v (A0Q k) (F1 k) (M0 k) x8 x9 x10 x3 x5
noncomputable abbrev A4y (k:Nat) (x0:(List TQ)) (x1:TQ):Option R98:=B98 (A0Q k) x0 x1
noncomputable abbrev Y8 (k:Nat) (x0:(List TQ)) (x1:(List TQ)):Option R51:=B51 (K9 k) (E6 k) (A4y k) x0 x1
noncomputable def A0u:Nat→(List (List TQ))→(List (List TQ))→Int→(List (List TQ))→Option R67
 |0,_,_,_,_=>none
 |k+1,x0,x1,x6,x5=>A8W (A0u k) (Y8 k) (X6 k) (N4 k) x0 x1 x6 x5
noncomputable abbrev A5O (k:Nat) (x0:(List (List TQ))) (x1:(List (List TQ))):Option R67:=B67 (A0u k) x0 x1
noncomputable abbrev A3U (k:Nat) (x0:(List (List TQ))) (x1:(List (List TQ))):Option R66:=B66 (A5O k) x0 x1
noncomputable abbrev A3d (k:Nat) (x0:(List (List TQ))) (x1:Int) (x2:Int) (x3:((List (List TQ))×(List (List TQ))×Unit)):Option B2b:=A7f (N5 k) (Q7 k) (A3U k) x0 x1 x2 x3
mutual
noncomputable def t8:Nat→(List TQ)→(List TQ)→Int→(List TQ)→Option Z3
 |0,_,_,_,_=>none
 |k+1,x0,x1,x6,x5=>A8P (s7 k) (F1 k) (E6 k) x0 x1 x6 x5
noncomputable def s7:Nat→(List TQ)→(List TQ)→Int→Int→Int→(List TQ)→TQ→Option Z3
 |0,_,_,_,_,_,_,_=>none
 |k+1,x0,x1,x6,x21,x22,x5,x7=>A7a (t8 k) (s7 k) (O6 k) (M0 k) x0 x1 x6 x21 x22 x5 x7
end
noncomputable abbrev W8 (k:Nat) (x0:(List TQ)) (x1:(List TQ)):Option Z3:=B45 (t8 k) x0 x1
noncomputable def A1A:Nat→Int→Int→TQ→(List TQ)→Option R21
 |0,_,_,_,_=>none
 |k+1,x1,x6,x2,x5=>A7c (A1A k) (F1 k) (E6 k) x1 x6 x2 x5
noncomputable abbrev A2k (k:Nat) (x0:TQ) (x1:Int):Option R21:=B21 (A1A k) x0 x1
noncomputable abbrev A3S (k:Nat) (x0:TQ):Option B0Q:=B9M x0
noncomputable abbrev t7 (k:Nat) (x0:TQ) (x1:TQ):Option R99:=B99 (M0 k) (A3S k) x0 x1
noncomputable def n8:Nat→(List TQ)→(List TQ)→(List TQ)→Option A2d
 |0,_,_,_=>none
 |k+1,x1,x6,x7=>A9D (n8 k) (K9 k) (A2k k) (W8 k) (Y8 k) (Z0 k) (t7 k) x1 x6 x7
noncomputable abbrev A4j (k:Nat) (x0:(List TQ)) (x1:(List TQ)):Option A2d:=B4B (n8 k) (F1 k) x0 x1
noncomputable abbrev A4q (k:Nat) (x0:(List TQ)) (x1:(List TQ)):Option B2j:=B4d (A4j k) x0 x1
noncomputable abbrev A0m (k:Nat) (x0:(List TQ)) (x1:(List TQ)):Option B1S:=B5f (A4q k) x0 x1
mutual
noncomputable def w8:Nat→(List (List TQ))→(List (List TQ))→Int→(List TQ)→(List (List TQ))→Option n9
 |0,_,_,_,_,_=>none
 |k+1,x1,x2,x8,x3,x7=>A9B (p9 k) (N4 k) x1 x2 x8 x3 x7
noncomputable def p9:Nat→(List (List TQ))→(List (List TQ))→Int→(List TQ)→Int→Int→(List TQ)→(List (List TQ))→Option n9
 |0,_,_,_,_,_,_,_,_=>none
 |k+1,x1,x2,x8,x9,x22,x23,x3,x7=>A9E (w8 k) (p9 k) (K9 k) (W8 k) (A0m k) x1 x2 x8 x9 x22 x23 x3 x7
end
noncomputable abbrev A5A (k:Nat) (x0:(List TQ)) (x1:(List (List TQ))) (x2:(List (List TQ))):Option n9:=B30 (w8 k) x0 x1 x2
noncomputable abbrev A3h (k:Nat) (x0:(List TQ)) (x1:(List (List TQ))) (x2:(List (List TQ))):Option R68:=B68 (A5A k) x0 x1 x2
noncomputable abbrev A3g (k:Nat) (x0:(List (List TQ))) (x1:Int) (x2:Int) (x3:((List TQ)×(List (List TQ))×(List (List TQ))×Unit)):Option B1Q:=A8a (N5 k) (Q7 k) (A3h k) x0 x1 x2 x3
noncomputable abbrev A4r (k:Nat) (x0:(List TQ)) (x1:(List (List TQ))) (x2:(List (List TQ))):Option B1y:=C4T (v3 k) x0 x1 x2
noncomputable abbrev A4C (k:Nat) (x0:((List TQ)×(List (List TQ))×(List (List TQ))×Unit)):Option B0V:=B4T (K4 k) (A4r k) x0
noncomputable abbrev A3J (k:Nat) (x0:(List TQ)) (x1:(List (List TQ))) (x2:(List (List TQ))):Option R53:=B53 (F8 k) (A4C k) x0 x1 x2
noncomputable abbrev A5T (k:Nat) (x0:(List (List TQ))) (x1:(List (List TQ))):Option B1E:=C4E (v6 k) x0 x1
noncomputable abbrev A3o (k:Nat) (x0:((List (List TQ))×(List (List TQ))×Unit)):Option B0R:=B4F (K4 k) (A5T k) x0
noncomputable abbrev A3B (k:Nat) (x0:(List TQ)) (x1:(List (List TQ))) (x2:(List (List TQ))):Option R63:=B63 (F8 k) (A3o k) x0 x1 x2
noncomputable def A0P:Nat→(List (List TQ))→(List (List TQ))→Int→Int→(List (List TQ))→Option A2F
 |0,_,_,_,_,_=>none
 |k+1,x0,x1,x14,x15,x5=>A7R (A0P k) (E7 k) (S0 k) (X4 k) x0 x1 x14 x15 x5
noncomputable abbrev A5P (k:Nat) (x0:(List (List TQ))) (x1:(List (List TQ))):Option A2F:=B2z (A0P k) x0 x1
noncomputable abbrev A5D (k:Nat) (x0:(List (List TQ))) (x1:(List (List TQ))):Option B0L:=C4o (A5P k) x0 x1
noncomputable abbrev A3Z (k:Nat) (x0:((List (List TQ))×(List (List TQ))×Unit)):Option B1t:=B3i (K4 k) (A5D k) x0
noncomputable abbrev A3c (k:Nat) (x0:(List TQ)) (x1:(List (List TQ))) (x2:(List (List TQ))):Option R64:=A6 (F8 k) (A3Z k) x0 x1 x2
end Go.Proofs.YtijohnkgomcdbaaGreatV
set_option maxRecDepth 100000
namespace Go.Proofs.YtijohnkgomcdbaaGreatV
open Go Go.RowKit YtijohnkgomcdbaaGreat YtijohnkgomcdbaaGreatE YtijohnkgomcdbaaGreatN YtijohnkgomcdbaaGreat.All YtijohnkgomcdbaaGreatW.PrintWords YtijohnkgomcdbaaGreatW.PrintLast YtijohnkgomcdbaaGreatW.PrintMore
abbrev Ya:= @E8
abbrev Yb:= @l9
abbrev Yc:= @F3
abbrev Yd:= @if_true
abbrev Ye:= @if_false
abbrev Yf:= @ne_eq
abbrev Yg:= @not_true_eq_false
abbrev Yh:= @not_false_eq_true
abbrev Yi:= @Bool.not_true
abbrev Yj:= @Bool.not_false
abbrev Yk:= @Bool.false_eq_true
abbrev Yl:= @Bool.not_eq_true'
abbrev Ym:= @G7
abbrev Yn:= @ite_not
abbrev Yo:= @eq_self
abbrev Yp:= @Bool.and_eq_true
abbrev Yq:= @Bool.or_eq_true
abbrev Yr:= @G9
abbrev Ys:= @G4
abbrev Yt:= @and_self
abbrev Yu:= @decide_true
abbrev Yv:= @decide_false
abbrev Yw:= @Bool.true_and
abbrev Yx:= @Bool.and_true
abbrev Yy:= @beq_self_eq_true
abbrev Yz:= @decide_eq_true_eq
abbrev YA:= @gt_iff_lt
abbrev YB:= @ge_iff_le
abbrev YC:= @Int.neg_eq_zero
theorem H8 {α:Type _} {f:Nat→Option α} {a:α} {Q:Nat→Prop}:Ev f a→(∃K,∀k,K≤k→Q k)→∃K,∀k,K≤k→f k=some a∧Q k:=fun⟨K,h⟩ ⟨L,g⟩=>⟨K+L,fun k hk=>⟨h k (by omega),g k (by omega)⟩⟩
theorem L4 {α:Type _} {f:Nat→Option α} {a:α} {Q:Nat→Prop}:(∃K,∀k,K≤k→Q k)→(∀k,Q k→f k=some a)→Ev f a:=fun⟨K,h⟩ g=>⟨K,fun k hk=>g k (h k hk)⟩
def fr (q:Rat):TI×ByteArray:=((ng q.num,ab q.num),B2 q.den)
theorem A9p:B2 1=⟨#[1]⟩:=by decide +kernel
theorem F4b:B2 0=⟨#[]⟩:=by decide +kernel
theorem D7q {a b:ByteArray}:a.toList=b.toList↔a=b:=by
 constructor
 ·intro h
  rw [ByteArray.toList_eq,ByteArray.toList_eq]at h
  cases a;cases b
  simp only [ByteArray.mk.injEq]
  exact Array.toList_inj.1 h
 ·intro h;rw [h]
theorem B5T (m n:Nat):((B2 m).toList==(B2 n).toList)=decide (m=n):=by
 rw [Bool.eq_iff_iff,beq_iff_eq,decide_eq_true_eq,D7q,B1p]
theorem W6 (m:Nat):((B2 m).toList==(⟨#[1]⟩:ByteArray).toList)=decide (m=1):=by rw [←A9p,B5T]
theorem B2V (m:Nat):((B2 m).toList==(⟨#[]⟩:ByteArray).toList)=decide (m=0):=by rw [←F4b,B5T]
theorem B7X (x:Int):((ab x).toList==(⟨#[]⟩:ByteArray).toList)=decide (x=0):=by
 unfold ab;rw [B2V,Bool.eq_iff_iff,decide_eq_true_eq,decide_eq_true_eq];omega
theorem C4s (x y:Int):(!(ng x==ng y))=(ng x !=ng y):=rfl
theorem C9h (m n:Nat):(B2 (m/n)).size≤(B2 m).size:=A4Y (Nat.div_le_self m n)
theorem F4J {n d:Int} {g:Nat} (h0:d≠0) (hg:g∣n.natAbs) (g0:g≠0):sg (ng n !=ng d) (n.natAbs/g)=d.sign*n/g:=by
 obtain⟨c,hc⟩:=hg
 have e:n.natAbs/g=c:=by rw [hc];exact Nat.mul_div_cancel_left _ (Nat.pos_of_ne_zero g0)
 rw [e]
 have g1:(g:Int)≠0:=by omega
 have key:∀z:Int,z=g*c→z/g=(c:Int):=fun z hz=>by rw [hz];exact Int.mul_ediv_cancel_left _ g1
 have keyn:∀z:Int,z= -(g*c:Int)→z/g= -(c:Int):=fun z hz=>by
  rw [hz,←Int.mul_neg];exact Int.mul_ediv_cancel_left _ g1
 have hcast:((n.natAbs:Nat):Int)=(g:Int)*(c:Int):=by rw [hc];exact Int.natCast_mul _ _
 rcases Int.lt_or_gt_of_ne h0 with hd|hd
 ·rw [A4t hd,Int.sign_eq_neg_one_of_neg hd]
  by_cases hn:n<0
  ·rw [A4t hn];exact(key _ (by omega)).symm
  ·rw [A4l (by omega)];exact(keyn _ (by omega)).symm
 ·rw [A4l (show 0≤d by omega),Int.sign_eq_one_of_pos hd]
  by_cases hn:n<0
  ·rw [A4t hn];exact(keyn _ (by omega)).symm
  ·rw [A4l (by omega)];exact(key _ (by omega)).symm
theorem C5i {n d:Int} (h0:d≠0):Nat.gcd n.natAbs d.natAbs≠0:=by
 intro h
 have:=(Nat.gcd_eq_zero_iff.1 h).2
 omega
theorem B9U {n d:Int} (h0:d≠0):((ng (sg (ng n !=ng d) (n.natAbs/Nat.gcd n.natAbs d.natAbs)),ab (sg (ng n !=ng d) (n.natAbs/Nat.gcd n.natAbs d.natAbs))),B2 (d.natAbs/Nat.gcd n.natAbs d.natAbs))=fr (Rat.divInt n d):=by
 have e:Int.gcd d n=Nat.gcd n.natAbs d.natAbs:=Nat.gcd_comm _ _
 unfold fr
 rw [Rat.num_divInt,Rat.den_divInt,if_neg h0,e,F4J h0 (Nat.gcd_dvd_left _ _) (C5i h0)]
theorem F7P {n d:Int} (h0:d≠0) (h:Nat.gcd n.natAbs d.natAbs=1):((ng (sg (ng n !=ng d) n.natAbs),ab (sg (ng n !=ng d) n.natAbs)),ab d)=fr (Rat.divInt n d):=by
 rw [show ab d=B2 d.natAbs from rfl,←B9U h0,h,Nat.div_one,Nat.div_one]
theorem F2e {n d:Int} (hn:(ab n).size≤1099511627776) (hd:(ab d).size≤1099511627776) (h0:d≠0):Ev (fun k=>a9 k (ng n,ab n) (ng d,ab d)) (fr (Rat.divInt n d)):=by
 have h1:=D3h (m:=n.natAbs) (n:=d.natAbs) hn hd
 have hg:=Nat.pos_of_ne_zero (C5i (n:=n) h0)
 have sg_:(B2 (Nat.gcd n.natAbs d.natAbs)).size≤1099511627776:=Nat.le_trans (A4Y (Nat.le_of_dvd (by omega) (Nat.gcd_dvd_right _ _))) hd
 have h2:=D6p (m:=n.natAbs) hn sg_ hg
 have h3:=D6p (m:=d.natAbs) hd sg_ hg
 have f1:=A3i (ng n !=ng d) (n.natAbs/Nat.gcd n.natAbs d.natAbs)
 have f2:=A3i (ng n !=ng d) n.natAbs
 have f3:=B9U (n:=n) h0
 by_cases hc:Nat.gcd n.natAbs d.natAbs=1
 ·have f4:=F7P h0 hc
  rw [←f4]
  rw [hc]at h1
  have h1':Ev (fun k=>exact_NatGcd.f k (ab n) (ab d)) (B2 1):=h1
  have f2':exact_IntMake.f (ng n !=ng d) (ab n)=_:=f2
  refine L4 h1' ?_
  rintro k h1'
  try dsimp only [fr]at h1'
  show a9 _ _ _=_
  unfold a9 B3P
  simp only [fr,K6,T8,A5H,Ya,Yb,Yc,Yd,Ye,Yf,Yg,Yh,Yi,Yj,Yk,Int.reduceEq,reduceCtorEq,Yl,Ym,Yn,Yo,Yp,Yq,Yr,Ys,Yt,Yu,Yv,Yw,Yx,Yy,Yz,YA,YB,YC,h1',W6,C4s,f2']
 ·rw [←f3]
  have h1':Ev (fun k=>exact_NatGcd.f k (ab n) (ab d)) (B2 (Nat.gcd n.natAbs d.natAbs)):=h1
  have h2':Ev (fun k=>exact_NatDivMod.f k (ab n) (B2 (Nat.gcd n.natAbs d.natAbs))) _:=h2
  have h3':Ev (fun k=>exact_NatDivMod.f k (ab d) (B2 (Nat.gcd n.natAbs d.natAbs))) _:=h3
  refine L4 (H8 h1' (H8 h2' h3')) ?_
  rintro k ⟨h1',h2',h3'⟩
  try dsimp only [fr]at h1' h2' h3'
  show a9 _ _ _=_
  unfold a9 B3P
  simp only [fr,K6,T8,A5H,Ya,Yb,Yc,Yd,Ye,Yf,Yg,Yh,Yi,Yj,Yk,Int.reduceEq,reduceCtorEq,Yl,Ym,Yn,Yo,Yp,Yq,Yr,Ys,Yt,Yu,Yv,Yw,Yx,Yy,Yz,YA,YB,YC,h1',h2',h3',W6,C4s,f1,hc]
theorem C3t {n:Int} {d:Nat} (hn:(ab n).size≤1099511627776) (hd:(B2 d).size≤1099511627776) (h0:d≠0):Ev (fun k=>a9 k (ng n,ab n) (false,B2 d)) (fr (mkRat n d)):=by
 have h:=F2e (d:=(d:Int)) hn (by rw [j3];exact hd) (by omega)
 rwa [B4h,j3,Rat.divInt_ofNat]at h
def Sm (n:Nat) (q:Rat):Prop:=(ab q.num).size≤n∧(B2 q.den).size≤n
theorem B3s {x y:Int} {n:Nat} (hx:(ab x).size≤n) (hy:(ab y).size≤n):(ab (x+y)).size≤n+1:=by
 unfold ab at*
 rw [B0B]at*
 have:=Int.natAbs_add_le x y
 rw [Nat.pow_succ]
 omega
theorem D3G {x:Int}:(ab (-x)).size=(ab x).size:=by unfold ab;rw [Int.natAbs_neg]
theorem A2T {x y:Nat} {m n:Nat} (hx:(B2 x).size≤m) (hy:(B2 y).size≤n):(B2 (x*y)).size≤m+n:=by
 rw [B0B]at*
 rw [Nat.pow_add]
 exact Nat.mul_lt_mul'' hx hy
theorem A2s {x y:Int} {m n:Nat} (hx:(ab x).size≤m) (hy:(ab y).size≤n):(ab (x*y)).size≤m+n:=by
 unfold ab at*
 rw [Int.natAbs_mul]
 exact A2T hx hy
theorem E7O (x:Int) (d:Nat):sg (ng x) (x.natAbs*d)=x*d:=by
 have h:=E6D x
 unfold sg at*
 cases hs:ng x with
 |true=>rw [hs]at h;simp only [if_true]at h⊢;rw [Int.natCast_mul,←Int.neg_mul,h]
 |false=>rw [hs]at h;simp only [Bool.false_eq_true,if_false]at h⊢;rw [Int.natCast_mul,h]
section
variable {a b:Rat}
theorem E1k (h:a.den=b.den):mkRat (a.num+b.num) a.den=a+b:=by
 rw [Rat.add_def',←h,←Int.add_mul,Rat.mkRat_mul_right a.den_nz]
theorem B9Q (n:Int):fr (n:Rat)=((ng n,ab n),B2 1):=rfl
theorem D8k (h:a.den=1) (h2:b.den=1):((ng (a.num+b.num),ab (a.num+b.num)),(⟨#[1]⟩:ByteArray))=fr (a+b):=by
 have e:a+b=((a.num+b.num:Int):Rat):=by
  rw [Rat.add_def',h,h2]
  have h3:=Rat.mkRat_self ((a.num+b.num:Int):Rat)
  have h4:mkRat (a.num+b.num) 1=((a.num+b.num:Int):Rat):=h3
  rw [←h4]
  simp only [Int.natCast_one,Int.mul_one,Nat.mul_one]
 rw [e,B9Q,A9p]
theorem D7t (h:a.den=1) (h2:b.den=1):((ng (a.num*b.num),ab (a.num*b.num)),(⟨#[1]⟩:ByteArray))=fr (a*b):=by
 have e:a*b=((a.num*b.num:Int):Rat):=by
  rw [Rat.mul_def',h,h2]
  have h3:=Rat.mkRat_self ((a.num*b.num:Int):Rat)
  have h4:mkRat (a.num*b.num) 1=((a.num*b.num:Int):Rat):=h3
  rw [←h4]
 rw [e,B9Q,A9p]
theorem C9F (ha:Sm 10000 a) (hb:Sm 10000 b):Ev (fun k=>J9 k (fr a) (fr b)) (fr (a+b)):=by
 have h1:=D5h (Nat.le_trans ha.1 (by decide)) (Nat.le_trans hb.1 (by decide))
 by_cases hd:a.den=b.den
 ·by_cases h1d:a.den=1
  ·have h2d:b.den=1:=by omega
   rw [←D8k h1d h2d]
   refine L4 h1 ?_
   rintro k h1
   try dsimp only [fr]at h1
   show J9 _ _ _=_
   unfold J9 B2H
   simp only [fr,R9,A2y,S9,A3u,K6,Ya,Yb,Yc,Yd,Ye,Yf,Yg,Yh,Yi,Yj,Yk,Int.reduceEq,reduceCtorEq,Yl,Ym,Yn,Yo,Yp,Yq,Yr,Ys,Yt,Yu,Yv,Yw,Yx,Yy,Yz,YA,YB,YC,h1,B5T,W6,h1d,h2d]
  ·have h2:=C3t (n:=a.num+b.num) (d:=a.den) (Nat.le_trans (B3s ha.1 hb.1) (by decide)) (Nat.le_trans ha.2 (by decide)) a.den_nz
   rw [E1k hd]at h2
   rw [show(fun k=>J9 k (fr a) (fr b))=fun k=>J9 k (fr a) ((ng b.num,ab b.num),B2 a.den)from by rw [hd];rfl]
   refine L4 (H8 h1 h2) ?_
   rintro k ⟨h1,h2⟩
   try dsimp only [fr]at h1 h2
   show J9 _ _ _=_
   unfold J9 B2H
   simp only [fr,R9,A2y,S9,A3u,K6,Ya,Yb,Yc,Yd,Ye,Yf,Yg,Yh,Yi,Yj,Yk,Int.reduceEq,reduceCtorEq,Yl,Ym,Yn,Yo,Yp,Yq,Yr,Ys,Yt,Yu,Yv,Yw,Yx,Yy,Yz,YA,YB,YC,h1,h2,B5T,W6,h1d]
 ·have h3:=B5g (m:=a.num.natAbs) (n:=b.den) (Nat.le_trans ha.1 (by decide)) (Nat.le_trans hb.2 (by decide))
  have h4:=B5g (m:=b.num.natAbs) (n:=a.den) (Nat.le_trans hb.1 (by decide)) (Nat.le_trans ha.2 (by decide))
  have h5:=B5g (m:=a.den) (n:=b.den) (Nat.le_trans ha.2 (by decide)) (Nat.le_trans hb.2 (by decide))
  have f1:=A3i (ng a.num) (a.num.natAbs*b.den)
  have f2:=A3i (ng b.num) (b.num.natAbs*a.den)
  rw [E7O]at f1 f2
  have s1:(ab (a.num*b.den)).size≤20000:=Nat.le_trans (A2s ha.1 (n:=10000) (by rw [j3];exact hb.2)) (by decide)
  have s2:(ab (b.num*a.den)).size≤20000:=Nat.le_trans (A2s hb.1 (n:=10000) (by rw [j3];exact ha.2)) (by decide)
  have h6:=D5h (Nat.le_trans s1 (by decide)) (Nat.le_trans s2 (by decide))
  have h7:=C3t (n:=a.num*b.den+b.num*a.den) (d:=a.den*b.den) (Nat.le_trans (B3s s1 s2) (by decide)) (Nat.le_trans (A2T ha.2 hb.2) (by decide)) (Nat.mul_ne_zero a.den_nz b.den_nz)
  rw [←Rat.add_def']at h7
  have h3':Ev (fun k=>exact_NatMul.f k (ab a.num) (B2 b.den)) _:=h3
  have h4':Ev (fun k=>exact_NatMul.f k (ab b.num) (B2 a.den)) _:=h4
  refine L4 (H8 h3' (H8 h4' (H8 h5 (H8 h6 h7)))) ?_
  rintro k ⟨h3',h4',h5,h6,h7⟩
  try dsimp only [fr]at h3' h4' h5 h6 h7
  show J9 _ _ _=_
  unfold J9 B2H
  simp only [fr,R9,A2y,S9,A3u,K6,Ya,Yb,Yc,Yd,Ye,Yf,Yg,Yh,Yi,Yj,Yk,Int.reduceEq,reduceCtorEq,Yl,Ym,Yn,Yo,Yp,Yq,Yr,Ys,Yt,Yu,Yv,Yw,Yx,Yy,Yz,YA,YB,YC,h3',h4',h5,h6,h7,B5T,W6,hd,f1,f2]
end
section
variable {a b:Rat}
theorem Sm.neg {n:Nat} (h:Sm n a):Sm n (-a):=⟨by rw [Rat.neg_num,D3G];exact h.1,h.2⟩
theorem E3L (a:Rat):Ev (fun k=>m8 k (fr a)) (fr (-a)):=by
 have f1:=E9S a.num
 have e:fr (-a)=((ng (-a.num),ab (-a.num)),B2 a.den):=rfl
 rw [e]
 refine⟨0,fun k _=>?_⟩
 show m8 _ _=_
 unfold m8 B9t
 simp only [fr,A6Z,Ya,Yb,Yc,Yd,Ye,Yf,Yg,Yh,Yi,Yj,Yk,Int.reduceEq,reduceCtorEq,Yl,Ym,Yn,Yo,Yp,Yq,Yr,Ys,Yt,Yu,Yv,Yw,Yx,Yy,Yz,YA,YB,YC,f1]
theorem D6R (ha:Sm 10000 a) (hb:Sm 10000 b):Ev (fun k=>L5 k (fr a) (fr b)) (fr (a-b)):=by
 have h1:=E3L b
 have h2:=C9F ha hb.neg
 rw [←Rat.sub_eq_add_neg]at h2
 refine L4 (H8 h1 h2) ?_
 rintro k ⟨h1,h2⟩
 try dsimp only [fr]at h1 h2
 show L5 _ _ _=_
 unfold L5 B88
 simp only [fr,Ya,Yb,Yc,Yd,Ye,Yf,Yg,Yh,Yi,Yj,Yk,Int.reduceEq,reduceCtorEq,Yl,Ym,Yn,Yo,Yp,Yq,Yr,Ys,Yt,Yu,Yv,Yw,Yx,Yy,Yz,YA,YB,YC,h1,h2]
theorem C3W (ha:Sm 10000 a) (hb:Sm 10000 b):Ev (fun k=>F0 k (fr a) (fr b)) (fr (a*b)):=by
 have h1:=E9X (Nat.le_trans ha.1 (by decide)) (Nat.le_trans hb.1 (by decide))
 have h2:=B5g (m:=a.den) (n:=b.den) (Nat.le_trans ha.2 (by decide)) (Nat.le_trans hb.2 (by decide))
 have h3:=C3t (n:=a.num*b.num) (d:=a.den*b.den) (Nat.le_trans (A2s ha.1 hb.1) (by decide)) (Nat.le_trans (A2T ha.2 hb.2) (by decide)) (Nat.mul_ne_zero a.den_nz b.den_nz)
 rw [←Rat.mul_def']at h3
 by_cases h1d:a.den=1
 ·by_cases h2d:b.den=1
  ·rw [←D7t h1d h2d]
   refine L4 h1 ?_
   rintro k h1
   try dsimp only [fr]at h1
   show F0 _ _ _=_
   unfold F0 B1d
   simp only [fr,R9,A2y,A3N,S9,Ya,Yb,Yc,Yd,Ye,Yf,Yg,Yh,Yi,Yj,Yk,Int.reduceEq,reduceCtorEq,Yl,Ym,Yn,Yo,Yp,Yq,Yr,Ys,Yt,Yu,Yv,Yw,Yx,Yy,Yz,YA,YB,YC,h1,W6,h1d,h2d]
  ·refine L4 (H8 h1 (H8 h2 h3)) ?_
   rintro k ⟨h1,h2,h3⟩
   try dsimp only [fr]at h1 h2 h3
   show F0 _ _ _=_
   unfold F0 B1d
   simp only [fr,R9,A2y,A3N,S9,Ya,Yb,Yc,Yd,Ye,Yf,Yg,Yh,Yi,Yj,Yk,Int.reduceEq,reduceCtorEq,Yl,Ym,Yn,Yo,Yp,Yq,Yr,Ys,Yt,Yu,Yv,Yw,Yx,Yy,Yz,YA,YB,YC,h1,h2,h3,W6,h2d,ite_self]
 ·refine L4 (H8 h1 (H8 h2 h3)) ?_
  rintro k ⟨h1,h2,h3⟩
  try dsimp only [fr]at h1 h2 h3
  show F0 _ _ _=_
  unfold F0 B1d
  simp only [fr,R9,A2y,A3N,S9,Ya,Yb,Yc,Yd,Ye,Yf,Yg,Yh,Yi,Yj,Yk,Int.reduceEq,reduceCtorEq,Yl,Ym,Yn,Yo,Yp,Yq,Yr,Ys,Yt,Yu,Yv,Yw,Yx,Yy,Yz,YA,YB,YC,h1,h2,h3,W6,h1d]
theorem C3T (h:a≠0):fr a⁻¹=((ng a.num,B2 a.den),ab a.num):=by
 have hn:a.num≠0:=fun e=>h (Rat.num_eq_zero.1 e)
 unfold fr
 rw [Rat.num_inv,Rat.den_inv,if_neg hn]
 have hd:=a.den_pos
 rcases Int.lt_or_gt_of_ne hn with g|g
 ·rw [Int.sign_eq_neg_one_of_neg g,A4t g,A4t (by omega)]
  have:ab (-1*(a.den:Int))=B2 a.den:=by unfold ab;congr 1;omega
  rw [this];rfl
 ·rw [Int.sign_eq_one_of_pos g,A4l (show 0≤a.num by omega),A4l (by omega)]
  have:ab (1*(a.den:Int))=B2 a.den:=by unfold ab;congr 1;omega
  rw [this];rfl
theorem E9i (h:a≠0):Ev (fun k=>Q2 k (fr a)) (fr a⁻¹):=by
 rw [C3T h]
 refine⟨0,fun k _=>?_⟩
 show Q2 _ _=_
 unfold Q2 B9v
 simp only [fr,Ya,Yb,Yc,Yd,Ye,Yf,Yg,Yh,Yi,Yj,Yk,Int.reduceEq,reduceCtorEq,Yl,Ym,Yn,Yo,Yp,Yq,Yr,Ys,Yt,Yu,Yv,Yw,Yx,Yy,Yz,YA,YB,YC]
theorem Sm.inv {n:Nat} (ha:Sm n a) (h:a≠0):Sm n a⁻¹:=by
 have e:=C3T h
 unfold fr at e
 rw [Prod.mk.injEq,Prod.mk.injEq]at e
 exact⟨by rw [e.1.2];exact ha.2,by rw [e.2];exact ha.1⟩
end
abbrev FV:=TI×ByteArray
def U5 (x:FV):Int:=if L6 x.1.1 x.1.2=1∨I0 x.2=1∨x.2.size=0 then 1 else if L6 x.1.1 x.1.2≠0∨I0 x.2≠0 then 4 else
 if Nat.gcd (K3 x.1.2).toNat (K3 x.2).toNat=1 then 0 else 1
theorem D1m (a:ByteArray):I0 a=0∨I0 a=1∨I0 a=4:=by
 unfold I0
 split
 ·exact Or.inr (Or.inl rfl)
 ·split
  ·exact Or.inr (Or.inr rfl)
  ·exact Or.inl rfl
theorem E1n (s:Bool) (a:ByteArray):L6 s a=0∨L6 s a=1∨L6 s a=4:=by
 unfold L6
 split
 ·exact Or.inr (Or.inl rfl)
 ·split
  ·exact Or.inr (Or.inl rfl)
  ·exact D1m a
theorem B7F (n:Nat):(K3 (B2 n)).toNat=n:=by rw [Go.Proofs.YtijohnkgomcdbaaGreatN.bval_nat];exact Int.toNat_natCast n
theorem F8K {a:Rat} (h:Sm 1024 a):U5 (fr a)=0:=by
 unfold U5 fr
 have h1:=C2a h.1
 have h2:=B8K h.2
 simp only
 rw [if_neg,if_neg,if_pos]
 ·have:=a.reduced
  show Nat.gcd (K3 (B2 a.num.natAbs)).toNat (K3 (B2 a.den)).toNat=1
  rw [B7F,B7F];exact this
 ·rw [h1,h2];simp
 ·rw [h1,h2]
  have h3:(B2 a.den).size≠0:=fun e=>a.den_nz (B1M.1 e)
  simp [h3]
theorem D5T {x:FV} (h:U5 x=0):∃a:Rat,x=fr a∧Sm 1024 a:=by
 unfold U5 at h
 split at h
 ·cases h
 ·rename_i c1
  split at h
  ·cases h
  ·rename_i c2
   split at h
   ·rename_i c3
    rw [not_or,Decidable.not_not,Decidable.not_not]at c2
    obtain⟨z,e1,e2,e3⟩:=D8z c2.1
    obtain⟨f1,f2⟩:=C8H c2.2
    have hd:(K3 x.2).toNat≠0:=fun e=>c1 (Or.inr (Or.inr (by rw [f1,e];exact B1M.2 rfl)))
    have hr:Nat.gcd z.natAbs (K3 x.2).toNat=1:=by
     have:(K3 x.1.2).toNat=z.natAbs:=by rw [e2];exact B7F _
     rw [←this];exact c3
    refine⟨⟨z,(K3 x.2).toNat,hd,hr⟩,?_,e3,by rw [←f1];exact f2⟩
    show x=((ng z,ab z),B2 (K3 x.2).toNat)
    rw [←f1,←e1,←e2]
   ·cases h
theorem D3J (x:FV):((L6 x.1.1 x.1.2=1∨I0 x.2=1∨x.2.size=0)∧U5 x=1)∨
  (¬(L6 x.1.1 x.1.2=1∨I0 x.2=1∨x.2.size=0)∧(L6 x.1.1 x.1.2=4∨L6 x.1.1 x.1.2=0∧I0 x.2=4)∧U5 x=4)∨
  (∃(z:Int) (d:Nat),x=((ng z,ab z),B2 d)∧d≠0∧(ab z).size≤1024∧(B2 d).size≤1024∧U5 x=if Nat.gcd z.natAbs d=1 then 0 else 1):=by
 by_cases c1:L6 x.1.1 x.1.2=1∨I0 x.2=1∨x.2.size=0
 ·exact Or.inl ⟨c1,if_pos c1⟩
 ·by_cases c2:L6 x.1.1 x.1.2≠0∨I0 x.2≠0
  ·refine Or.inr (Or.inl ⟨c1,?_,by unfold U5;rw [if_neg c1,if_pos c2]⟩)
   rw [not_or,not_or]at c1
   rcases E1n x.1.1 x.1.2 with h|h|h
   ·rcases D1m x.2 with g|g|g
    ·rw [h,g]at c2;simp at c2
    ·exact absurd g c1.2.1
    ·exact Or.inr ⟨h,g⟩
   ·exact absurd h c1.1
   ·exact Or.inl h
  ·have c2':=c2
   rw [not_or,Decidable.not_not,Decidable.not_not]at c2'
   obtain⟨z,e1,e2,e3⟩:=D8z c2'.1
   obtain⟨f1,f2⟩:=C8H c2'.2
   have hd:(K3 x.2).toNat≠0:=fun e=>c1 (Or.inr (Or.inr (by rw [f1,e];exact B1M.2 rfl)))
   have hb:(K3 x.1.2).toNat=z.natAbs:=by rw [e2];exact B7F _
   refine Or.inr (Or.inr ⟨z,(K3 x.2).toNat,by rw [←f1,←e1,←e2],hd,e3,by rw [←f1];exact f2,?_⟩)
   unfold U5;rw [if_neg c1,if_neg c2,hb]
theorem B4a (d:ByteArray):(d.toList==(⟨#[]⟩:ByteArray).toList)=decide (d.size=0):=by
 rw [Bool.eq_iff_iff,beq_iff_eq,decide_eq_true_eq,F2C,A3k]
theorem F3Z (x:FV):Ev (fun k=>N1 k x) (U5 x):=by
 have h1:=F7m x.1.1 x.1.2
 have h2:=Go.Proofs.YtijohnkgomcdbaaGreatN.Check_ev x.2
 rcases D3J x with⟨c,e⟩| ⟨c,c2,e⟩| ⟨z,d,rfl,hd,hz,hs,e⟩
 ·rw [e]
  by_cases c1:L6 x.1.1 x.1.2=1
  ·refine L4 (H8 h1 h2) ?_
   rintro k ⟨h1,h2⟩
   try dsimp only [fr]at h1 h2
   show N1 _ _=_
   unfold N1 A2i
   simp only [fr,t4,V8,T8,Ya,Yb,Yc,Yd,Ye,Yf,Yg,Yh,Yi,Yj,Yk,Int.reduceEq,reduceCtorEq,Yl,Ym,Yn,Yo,Yp,Yq,Yr,Ys,Yt,Yu,Yv,Yw,Yx,Yy,Yz,YA,YB,YC,h1,h2,c1]
  ·by_cases c2:I0 x.2=1
   ·refine L4 (H8 h1 h2) ?_
    rintro k ⟨h1,h2⟩
    try dsimp only [fr]at h1 h2
    show N1 _ _=_
    unfold N1 A2i
    simp only [fr,t4,V8,T8,Ya,Yb,Yc,Yd,Ye,Yf,Yg,Yh,Yi,Yj,Yk,Int.reduceEq,reduceCtorEq,Yl,Ym,Yn,Yo,Yp,Yq,Yr,Ys,Yt,Yu,Yv,Yw,Yx,Yy,Yz,YA,YB,YC,h1,h2,c1,c2,ite_self]
   ·have c3:x.2.size=0:=by rcases c with c|c|c;exact absurd c c1;exact absurd c c2;exact c
    refine L4 (H8 h1 h2) ?_
    rintro k ⟨h1,h2⟩
    try dsimp only [fr]at h1 h2
    show N1 _ _=_
    unfold N1 A2i
    simp only [fr,t4,V8,T8,Ya,Yb,Yc,Yd,Ye,Yf,Yg,Yh,Yi,Yj,Yk,Int.reduceEq,reduceCtorEq,Yl,Ym,Yn,Yo,Yp,Yq,Yr,Ys,Yt,Yu,Yv,Yw,Yx,Yy,Yz,YA,YB,YC,h1,h2,c1,c2,c3,B4a]
 ·rw [not_or,not_or]at c
  rw [e]
  rcases c2 with c2| ⟨c2,c3⟩
  ·have c1:=c.2.1
   have c4:=c.2.2
   refine L4 (H8 h1 h2) ?_
   rintro k ⟨h1,h2⟩
   try dsimp only [fr]at h1 h2
   show N1 _ _=_
   unfold N1 A2i
   simp only [fr,t4,V8,T8,Ya,Yb,Yc,Yd,Ye,Yf,Yg,Yh,Yi,Yj,Yk,Int.reduceEq,reduceCtorEq,Yl,Ym,Yn,Yo,Yp,Yq,Yr,Ys,Yt,Yu,Yv,Yw,Yx,Yy,Yz,YA,YB,YC,h1,h2,c1,c2,c4,B4a]
  ·have c4:=c.2.2
   refine L4 (H8 h1 h2) ?_
   rintro k ⟨h1,h2⟩
   try dsimp only [fr]at h1 h2
   show N1 _ _=_
   unfold N1 A2i
   simp only [fr,t4,V8,T8,Ya,Yb,Yc,Yd,Ye,Yf,Yg,Yh,Yi,Yj,Yk,Int.reduceEq,reduceCtorEq,Yl,Ym,Yn,Yo,Yp,Yq,Yr,Ys,Yt,Yu,Yv,Yw,Yx,Yy,Yz,YA,YB,YC,h1,h2,c2,c3,c4,B4a]
 ·rw [e]
  have h3:=D3h (m:=z.natAbs) (n:=d) (Nat.le_trans hz (by decide)) (Nat.le_trans hs (by decide))
  have h3':Ev (fun k=>exact_NatGcd.f k (ab z) (B2 d)) _:=h3
  dsimp only at h1 h2
  rw [C2a hz]at h1
  rw [B8K hs]at h2
  by_cases c:d=1
  ·subst c
   have e1:Nat.gcd z.natAbs 1=1:=Nat.gcd_one_right _
   refine L4 (H8 h1 h2) ?_
   rintro k ⟨h1,h2⟩
   try dsimp only [fr]at h1 h2
   show N1 _ _=_
   unfold N1 A2i
   simp only [fr,t4,V8,T8,Ya,Yb,Yc,Yd,Ye,Yf,Yg,Yh,Yi,Yj,Yk,Int.reduceEq,reduceCtorEq,Yl,Ym,Yn,Yo,Yp,Yq,Yr,Ys,Yt,Yu,Yv,Yw,Yx,Yy,Yz,YA,YB,YC,h1,h2,W6,B2V,e1]
  ·by_cases c5:Nat.gcd z.natAbs d=1
   ·refine L4 (H8 h1 (H8 h2 h3')) ?_
    rintro k ⟨h1,h2,h3'⟩
    try dsimp only [fr]at h1 h2 h3'
    show N1 _ _=_
    unfold N1 A2i
    simp only [fr,t4,V8,T8,Ya,Yb,Yc,Yd,Ye,Yf,Yg,Yh,Yi,Yj,Yk,Int.reduceEq,reduceCtorEq,Yl,Ym,Yn,Yo,Yp,Yq,Yr,Ys,Yt,Yu,Yv,Yw,Yx,Yy,Yz,YA,YB,YC,h1,h2,h3',W6,B2V,hd,c,c5]
   ·refine L4 (H8 h1 (H8 h2 h3')) ?_
    rintro k ⟨h1,h2,h3'⟩
    try dsimp only [fr]at h1 h2 h3'
    show N1 _ _=_
    unfold N1 A2i
    simp only [fr,t4,V8,T8,Ya,Yb,Yc,Yd,Ye,Yf,Yg,Yh,Yi,Yj,Yk,Int.reduceEq,reduceCtorEq,Yl,Ym,Yn,Yo,Yp,Yq,Yr,Ys,Yt,Yu,Yv,Yw,Yx,Yy,Yz,YA,YB,YC,h1,h2,h3',W6,B2V,hd,c,c5]
theorem D2X (x:FV):Ev (fun k=>L7 k x) (U5 x):=by
 have f1:=E2v x.1.1 x.1.2
 have f2:=D7i x.2
 have f3:=E6X x.1.1 x.1.2
 have f4:=D9X x.2
 have k1:decide ((x.1.2.size=0∨bt x.1.2 0≠0)∧¬(x.1.1=true∧x.1.2.size=0))=!decide (L6 x.1.1 x.1.2=1):=by
  rw [Bool.eq_iff_iff,decide_eq_true_eq,Bool.not_eq_true',decide_eq_false_iff_not]
  unfold L6
  by_cases g:I0 x.1.2=1
  ·rw [if_pos g]
   have:=C0j.1 g
   exact⟨fun q=>absurd q.1 this,fun q=>absurd rfl q⟩
  ·rw [if_neg g]
   have g2:x.1.2.size=0∨bt x.1.2 0≠0:=Decidable.not_not.1 fun q=>g (C0j.2 q)
   by_cases g3:x.1.1=true∧x.1.2.size=0
   ·rw [if_pos g3];exact⟨fun q=>absurd g3 q.2,fun q=>absurd rfl q⟩
   ·rw [if_neg g3];exact⟨fun _=>g,fun _=>⟨g2,g3⟩⟩
 have k2:decide (x.2.size=0∨bt x.2 0≠0)=!decide (I0 x.2=1):=by
  rw [Bool.eq_iff_iff,decide_eq_true_eq,Bool.not_eq_true',decide_eq_false_iff_not]
  constructor
  ·intro q r;exact C0j.1 r q
  ·intro q;exact Decidable.not_not.1 fun r=>q (C0j.2 r)
 rw [k1]at f1
 rw [k2]at f2
 rcases D3J x with⟨c,e⟩| ⟨c,c2,e⟩| ⟨z,d,rfl,hd,hz,hs,e⟩
 ·rw [e]
  have f5:b9=b9:=rfl
  by_cases c1:L6 x.1.1 x.1.2=1
  ·refine⟨0,fun k _=>?_⟩
   show L7 _ _=_
   unfold L7 A4X
   simp only [fr,A0I,d7,Y5,Ya,Yb,Yc,Yd,Ye,Yf,Yg,Yh,Yi,Yj,Yk,Int.reduceEq,reduceCtorEq,Yl,Ym,Yn,Yo,Yp,Yq,Yr,Ys,Yt,Yu,Yv,Yw,Yx,Yy,Yz,YA,YB,YC,f1,c1]
  ·by_cases c2:I0 x.2=1
   ·refine⟨0,fun k _=>?_⟩
    show L7 _ _=_
    unfold L7 A4X
    simp only [fr,A0I,d7,Y5,Ya,Yb,Yc,Yd,Ye,Yf,Yg,Yh,Yi,Yj,Yk,Int.reduceEq,reduceCtorEq,Yl,Ym,Yn,Yo,Yp,Yq,Yr,Ys,Yt,Yu,Yv,Yw,Yx,Yy,Yz,YA,YB,YC,f1,f2,c1,c2]
   ·have c3:x.2.size=0:=by rcases c with c|c|c;exact absurd c c1;exact absurd c c2;exact c
    refine⟨0,fun k _=>?_⟩
    show L7 _ _=_
    unfold L7 A4X
    simp only [fr,A0I,d7,Y5,Ya,Yb,Yc,Yd,Ye,Yf,Yg,Yh,Yi,Yj,Yk,Int.reduceEq,reduceCtorEq,Yl,Ym,Yn,Yo,Yp,Yq,Yr,Ys,Yt,Yu,Yv,Yw,Yx,Yy,Yz,YA,YB,YC,f1,f2,c1,c2,c3,B4a]
 ·rw [e]
  rw [not_or,not_or]at c
  have c1:=c.1
  have c3:=c.2.1
  have c4:=c.2.2
  have hf:Ev (fun k=>b9 k x) 4:=by
   by_cases g:(x.1.2.size:Int)>1024
   ·rw [if_pos g]at f3
    refine⟨0,fun k _=>?_⟩
    show b9 _ _=_
    unfold b9 B0d
    simp only [fr,A3O,v8,Ya,Yb,Yc,Yd,Ye,Yf,Yg,Yh,Yi,Yj,Yk,Int.reduceEq,reduceCtorEq,Yl,Ym,Yn,Yo,Yp,Yq,Yr,Ys,Yt,Yu,Yv,Yw,Yx,Yy,Yz,YA,YB,YC,f3]
   ·rw [if_neg g]at f3
    have g2:(x.2.size:Int)>1024:=by
     rcases c2 with c2| ⟨c2,c5⟩
     ·exfalso
      unfold L6 at c2 c1
      split at c2
      ·cases c2
      ·split at c2
       ·cases c2
       ·rename_i q1 q2
        rw [D8D q1,if_neg g]at c2;cases c2
     ·rw [D8D c3]at c5
      split at c5
      ·assumption
      ·cases c5
    rw [if_pos g2]at f4
    refine⟨0,fun k _=>?_⟩
    show b9 _ _=_
    unfold b9 B0d
    simp only [fr,A3O,v8,Ya,Yb,Yc,Yd,Ye,Yf,Yg,Yh,Yi,Yj,Yk,Int.reduceEq,reduceCtorEq,Yl,Ym,Yn,Yo,Yp,Yq,Yr,Ys,Yt,Yu,Yv,Yw,Yx,Yy,Yz,YA,YB,YC,f3,f4]
  refine L4 hf ?_
  rintro k hf
  try dsimp only [fr]at hf
  show L7 _ _=_
  unfold L7 A4X
  simp only [fr,A0I,d7,Y5,Ya,Yb,Yc,Yd,Ye,Yf,Yg,Yh,Yi,Yj,Yk,Int.reduceEq,reduceCtorEq,Yl,Ym,Yn,Yo,Yp,Yq,Yr,Ys,Yt,Yu,Yv,Yw,Yx,Yy,Yz,YA,YB,YC,hf,f1,f2,c1,c3,c4,B4a]
 ·rw [e]
  have h3:=rGcd_ev (m:=z.natAbs) (n:=d) (Nat.le_trans hz (by decide)) (Nat.le_trans hs (by decide))
  have h3':Ev (fun k=>galoisref01_Gcd.f k (ab z) (B2 d)) _:=h3
  dsimp only at f1 f2 f3 f4
  rw [C2a hz]at f1
  rw [B8K hs]at f2
  have g1:¬((ab z).size:Int)>1024:=by omega
  have g2:¬((B2 d).size:Int)>1024:=by omega
  rw [if_neg g1]at f3
  rw [if_neg g2]at f4
  have hf:Ev (fun k=>b9 k ((ng z,ab z),B2 d)) 0:=by
   refine⟨0,fun k _=>?_⟩
   show b9 _ _=_
   unfold b9 B0d
   simp only [fr,A3O,v8,Ya,Yb,Yc,Yd,Ye,Yf,Yg,Yh,Yi,Yj,Yk,Int.reduceEq,reduceCtorEq,Yl,Ym,Yn,Yo,Yp,Yq,Yr,Ys,Yt,Yu,Yv,Yw,Yx,Yy,Yz,YA,YB,YC,f3,f4]
  by_cases c5:Nat.gcd z.natAbs d=1
  ·refine L4 (H8 hf h3') ?_
   rintro k ⟨hf,h3'⟩
   try dsimp only [fr]at hf h3'
   show L7 _ _=_
   unfold L7 A4X
   simp only [fr,A0I,d7,Y5,Ya,Yb,Yc,Yd,Ye,Yf,Yg,Yh,Yi,Yj,Yk,Int.reduceEq,reduceCtorEq,Yl,Ym,Yn,Yo,Yp,Yq,Yr,Ys,Yt,Yu,Yv,Yw,Yx,Yy,Yz,YA,YB,YC,hf,h3',f1,f2,W6,B2V,hd,c5]
  ·refine L4 (H8 hf h3') ?_
   rintro k ⟨hf,h3'⟩
   try dsimp only [fr]at hf h3'
   show L7 _ _=_
   unfold L7 A4X
   simp only [fr,A0I,d7,Y5,Ya,Yb,Yc,Yd,Ye,Yf,Yg,Yh,Yi,Yj,Yk,Int.reduceEq,reduceCtorEq,Yl,Ym,Yn,Yo,Yp,Yq,Yr,Ys,Yt,Yu,Yv,Yw,Yx,Yy,Yz,YA,YB,YC,hf,h3',f1,f2,W6,B2V,hd,c5]
theorem len1 (x:FV):(([x]:List FV).length:Int)=1:=rfl
theorem len2 (x y:FV):(([x,y]:List FV).length:Int)=2:=rfl
def wide (n:Nat) (e:Nat):Bool:=decide (n≠0∧8192≤(bl n-1)*e)
end Go.Proofs.YtijohnkgomcdbaaGreatV
namespace Go.Proofs.YtijohnkgomcdbaaGreatV
open Go Go.RowKit YtijohnkgomcdbaaGreat YtijohnkgomcdbaaGreatE YtijohnkgomcdbaaGreatW.PrintWords YtijohnkgomcdbaaGreatW.PrintLast YtijohnkgomcdbaaGreatW.PrintMore
theorem E2X (k:Nat):A3T (k+300)=some true:=by kernel_rfl
theorem C8W:Ev (fun k=>A3T k) true:=⟨300,fun k hk=>by
 obtain⟨m,rfl⟩:=Nat.exists_eq_add_of_le' hk
 exact E2X m⟩
end Go.Proofs.YtijohnkgomcdbaaGreatV
set_option maxRecDepth 100000
namespace Go.Proofs.YtijohnkgomcdbaaGreatV
open Go Go.RowKit YtijohnkgomcdbaaGreat YtijohnkgomcdbaaGreatE YtijohnkgomcdbaaGreatN YtijohnkgomcdbaaGreat.All YtijohnkgomcdbaaGreatW.PrintWords YtijohnkgomcdbaaGreatW.PrintLast YtijohnkgomcdbaaGreatW.PrintMore
theorem Sm.mono {m n:Nat} {a:Rat} (h:Sm m a) (hmn:m≤n):Sm n a:=⟨Nat.le_trans h.1 hmn,Nat.le_trans h.2 hmn⟩
theorem Sm.mk_ {n:Int} {d s:Nat} (hn:(ab n).size≤s) (hd:(B2 d).size≤s) (h0:d≠0):Sm s (mkRat n d):=by
 have hg:Nat.gcd d n.natAbs≠0:=fun e=>h0 (Nat.gcd_eq_zero_iff.1 e).1
 constructor
 ·rw [Rat.num_mkRat,if_neg h0]
  obtain⟨c,hc⟩:=Nat.gcd_dvd_right d n.natAbs
  have hi:∃z:Int,n=(Nat.gcd d n.natAbs:Int)*z:=by
   have:(Nat.gcd d n.natAbs:Int)∣n:=Int.dvd_natAbs.1 (Int.natCast_dvd_natCast.2 (Nat.gcd_dvd_right d n.natAbs))
   exact this
  obtain⟨z,hz⟩:=hi
  have e:n/(Nat.gcd d n.natAbs:Int)=z:=by
   conv=>lhs;lhs;rw [hz]
   exact Int.mul_ediv_cancel_left _ (by omega)
  rw [e]
  refine Nat.le_trans (A4Y ?_) hn
  have:n.natAbs=Nat.gcd d n.natAbs*z.natAbs:=by
   conv=>lhs;rw [hz]
   rw [Int.natAbs_mul,Int.natAbs_natCast]
  rw [this]
  exact Nat.le_mul_of_pos_left _ (Nat.pos_of_ne_zero hg)
 ·rw [Rat.den_mkRat,if_neg h0]
  exact Nat.le_trans (C9h _ _) hd
section
variable {a b:Rat} {m n:Nat}
theorem Sm.add (ha:Sm m a) (hb:Sm n b):Sm (m+n+1) (a+b):=by
 rw [Rat.add_def']
 refine Sm.mk_ (B3s (A2s ha.1 (n:=n) (by rw [j3];exact hb.2)) (Nat.le_trans (A2s hb.1 (n:=m) (by rw [j3];exact ha.2)) (by omega))) (Nat.le_trans (A2T ha.2 hb.2) (by omega)) (Nat.mul_ne_zero a.den_nz b.den_nz)
theorem Sm.sub (ha:Sm m a) (hb:Sm n b):Sm (m+n+1) (a-b):=by rw [Rat.sub_eq_add_neg];exact ha.add hb.neg
theorem Sm.mul (ha:Sm m a) (hb:Sm n b):Sm (m+n) (a*b):=by
 rw [Rat.mul_def']
 exact Sm.mk_ (A2s ha.1 hb.1) (A2T ha.2 hb.2) (Nat.mul_ne_zero a.den_nz b.den_nz)
end
theorem E7l {n d:Int} (hn:(ab n).size≤1099511627776) (hd:(ab d).size≤1099511627776) (h0:d≠0):Ev (fun k=>o5 k (ng n,ab n) (ng d,ab d)) (fr (Rat.divInt n d)):=by
 have h1:=Go.Proofs.YtijohnkgomcdbaaGreatN.rGcd_ev (m:=n.natAbs) (n:=d.natAbs) hn hd
 have hg:=Nat.pos_of_ne_zero (C5i (n:=n) h0)
 have sg_:(B2 (Nat.gcd n.natAbs d.natAbs)).size≤1099511627776:=Nat.le_trans (A4Y (Nat.le_of_dvd (by omega) (Nat.gcd_dvd_right _ _))) hd
 have h2:=Go.Proofs.YtijohnkgomcdbaaGreatN.rDivMod_ev (m:=n.natAbs) hn sg_
 have h3:=Go.Proofs.YtijohnkgomcdbaaGreatN.rDivMod_ev (m:=d.natAbs) hd sg_
 rw [if_neg (Nat.ne_of_gt hg)]at h2 h3
 have f1:=B5h (ng n !=ng d) (n.natAbs/Nat.gcd n.natAbs d.natAbs)
 have f3:=B9U (n:=n) h0
 rw [←f3]
 have h1':Ev (fun k=>galoisref01_Gcd.f k (ab n) (ab d)) _:=h1
 have h2':Ev (fun k=>galoisref01_DivMod.f k (ab n) (B2 (Nat.gcd n.natAbs d.natAbs))) _:=h2
 have h3':Ev (fun k=>galoisref01_DivMod.f k (ab d) (B2 (Nat.gcd n.natAbs d.natAbs))) _:=h3
 refine L4 (H8 h1' (H8 h2' h3')) ?_
 rintro k ⟨h1',h2',h3'⟩
 try dsimp only [fr]at h1' h2' h3'
 show o5 _ _ _=_
 unfold o5 B5u
 simp only [fr,Y5,j5,v9,Ya,Yb,Yc,Yd,Ye,Yf,Yg,Yh,Yi,Yj,Yk,Int.reduceEq,reduceCtorEq,Yl,Ym,Yn,Yo,Yp,Yq,Yr,Ys,Yt,Yu,Yv,Yw,Yx,Yy,Yz,YA,YB,YC,h1',h2',h3',B7X,C4s,f1,h0]
theorem D8l {n:Int} {d:Nat} (hn:(ab n).size≤1099511627776) (hd:(B2 d).size≤1099511627776) (h0:d≠0):Ev (fun k=>o5 k (ng n,ab n) (false,B2 d)) (fr (mkRat n d)):=by
 have h:=E7l (d:=(d:Int)) hn (by rw [j3];exact hd) (by omega)
 rwa [B4h,j3,Rat.divInt_ofNat]at h
theorem C3g {x:Int} {d:Nat} (hx:(ab x).size≤10000) (hd:(B2 d).size≤10000):Ev (fun k=>galoisref02_Mul.f k (ng x) (ab x) false (B2 d)) (ng (x*d),ab (x*d)):=by
 have h:=D4S (x:=x) (y:=(d:Int)) (Nat.le_trans hx (by decide)) (by rw [j3];exact Nat.le_trans hd (by decide))
 rwa [B4h,j3]at h
theorem D4I {d e:Nat} (hd:(B2 d).size≤10000) (he:(B2 e).size≤10000):Ev (fun k=>galoisref02_Mul.f k false (B2 d) false (B2 e)) (false,B2 (d*e)):=by
 have h:=C3g (x:=(d:Int)) (by rw [j3];exact hd) he
 rwa [←Int.natCast_mul,B4h,j3,B4h,j3]at h
section
variable {a b:Rat}
theorem szD {x:Int} {d:Nat} (hx:(ab x).size≤10000) (hd:(B2 d).size≤10000):(ab (x*d)).size≤20000:=Nat.le_trans (A2s hx (n:=10000) (by rw [j3];exact hd)) (by decide)
theorem D3g (ha:Sm 10000 a) (hb:Sm 10000 b):Ev (fun k=>O6 k (fr a) (fr b)) (fr (a+b)):=by
 have h1:=C3g ha.1 hb.2
 have h2:=C3g hb.1 ha.2
 have s1:=szD ha.1 hb.2
 have s2:=szD hb.1 ha.2
 have h3:=D7V (Nat.le_trans s1 (by decide)) (Nat.le_trans s2 (by decide))
 have h4:=D4I ha.2 hb.2
 have h5:=D8l (n:=a.num*b.den+b.num*a.den) (d:=a.den*b.den) (Nat.le_trans (B3s s1 s2) (by decide)) (Nat.le_trans (A2T ha.2 hb.2) (by decide)) (Nat.mul_ne_zero a.den_nz b.den_nz)
 rw [←Rat.add_def']at h5
 by_cases h1d:a.den=1
 ·by_cases h2d:b.den=1
  ·have h6:=D7V (x:=a.num) (y:=b.num) (Nat.le_trans ha.1 (by decide)) (Nat.le_trans hb.1 (by decide))
   rw [←D8k h1d h2d]
   refine L4 h6 ?_
   rintro k h6
   try dsimp only [fr]at h6
   show O6 _ _ _=_
   unfold O6 A9s
   simp only [fr,c9,A4R,A4B,Z7,b8,A4S,Ya,Yb,Yc,Yd,Ye,Yf,Yg,Yh,Yi,Yj,Yk,Int.reduceEq,reduceCtorEq,Yl,Ym,Yn,Yo,Yp,Yq,Yr,Ys,Yt,Yu,Yv,Yw,Yx,Yy,Yz,YA,YB,YC,h6,W6,h1d,h2d]
  ·refine L4 (H8 h1 (H8 h2 (H8 h3 (H8 h4 h5)))) ?_
   rintro k ⟨h1,h2,h3,h4,h5⟩
   try dsimp only [fr]at h1 h2 h3 h4 h5
   show O6 _ _ _=_
   unfold O6 A9s
   simp only [fr,c9,A4R,A4B,Z7,b8,A4S,Ya,Yb,Yc,Yd,Ye,Yf,Yg,Yh,Yi,Yj,Yk,Int.reduceEq,reduceCtorEq,Yl,Ym,Yn,Yo,Yp,Yq,Yr,Ys,Yt,Yu,Yv,Yw,Yx,Yy,Yz,YA,YB,YC,h1,h2,h3,h4,h5,W6,h2d,ite_self]
 ·refine L4 (H8 h1 (H8 h2 (H8 h3 (H8 h4 h5)))) ?_
  rintro k ⟨h1,h2,h3,h4,h5⟩
  try dsimp only [fr]at h1 h2 h3 h4 h5
  show O6 _ _ _=_
  unfold O6 A9s
  simp only [fr,c9,A4R,A4B,Z7,b8,A4S,Ya,Yb,Yc,Yd,Ye,Yf,Yg,Yh,Yi,Yj,Yk,Int.reduceEq,reduceCtorEq,Yl,Ym,Yn,Yo,Yp,Yq,Yr,Ys,Yt,Yu,Yv,Yw,Yx,Yy,Yz,YA,YB,YC,h1,h2,h3,h4,h5,W6,h1d]
theorem C5k (ha:Sm 10000 a) (hb:Sm 10000 b):Ev (fun k=>M0 k (fr a) (fr b)) (fr (a*b)):=by
 have h1:=D4S (Nat.le_trans ha.1 (by decide)) (Nat.le_trans hb.1 (by decide))
 have h2:=D4I ha.2 hb.2
 have h3:=D8l (n:=a.num*b.num) (d:=a.den*b.den) (Nat.le_trans (A2s ha.1 hb.1) (by decide)) (Nat.le_trans (A2T ha.2 hb.2) (by decide)) (Nat.mul_ne_zero a.den_nz b.den_nz)
 rw [←Rat.mul_def']at h3
 by_cases h1d:a.den=1
 ·by_cases h2d:b.den=1
  ·rw [←D7t h1d h2d]
   refine L4 h1 ?_
   rintro k h1
   try dsimp only [fr]at h1
   show M0 _ _ _=_
   unfold M0 A9z
   simp only [fr,c9,A4R,Z7,b8,A4S,Ya,Yb,Yc,Yd,Ye,Yf,Yg,Yh,Yi,Yj,Yk,Int.reduceEq,reduceCtorEq,Yl,Ym,Yn,Yo,Yp,Yq,Yr,Ys,Yt,Yu,Yv,Yw,Yx,Yy,Yz,YA,YB,YC,h1,W6,h1d,h2d]
  ·refine L4 (H8 h1 (H8 h2 h3)) ?_
   rintro k ⟨h1,h2,h3⟩
   try dsimp only [fr]at h1 h2 h3
   show M0 _ _ _=_
   unfold M0 A9z
   simp only [fr,c9,A4R,Z7,b8,A4S,Ya,Yb,Yc,Yd,Ye,Yf,Yg,Yh,Yi,Yj,Yk,Int.reduceEq,reduceCtorEq,Yl,Ym,Yn,Yo,Yp,Yq,Yr,Ys,Yt,Yu,Yv,Yw,Yx,Yy,Yz,YA,YB,YC,h1,h2,h3,W6,h2d,ite_self]
 ·refine L4 (H8 h1 (H8 h2 h3)) ?_
  rintro k ⟨h1,h2,h3⟩
  try dsimp only [fr]at h1 h2 h3
  show M0 _ _ _=_
  unfold M0 A9z
  simp only [fr,c9,A4R,Z7,b8,A4S,Ya,Yb,Yc,Yd,Ye,Yf,Yg,Yh,Yi,Yj,Yk,Int.reduceEq,reduceCtorEq,Yl,Ym,Yn,Yo,Yp,Yq,Yr,Ys,Yt,Yu,Yv,Yw,Yx,Yy,Yz,YA,YB,YC,h1,h2,h3,W6,h1d]
theorem E0A (h:a≠0):a.num≠0:=fun e=>h (Rat.num_eq_zero.1 e)
theorem E3f (h:a≠0):Ev (fun k=>A3S k (fr a)) (fr a⁻¹):=by
 have h0:=E0A h
 rw [C3T h]
 refine⟨0,fun k _=>?_⟩
 show A3S _ _=_
 unfold A3S B9M
 simp only [fr,Ya,Yb,Yc,Yd,Ye,Yf,Yg,Yh,Yi,Yj,Yk,Int.reduceEq,reduceCtorEq,Yl,Ym,Yn,Yo,Yp,Yq,Yr,Ys,Yt,Yu,Yv,Yw,Yx,Yy,Yz,YA,YB,YC,B7X,h0]
theorem E7V (ha:Sm 10000 a) (hb:Sm 10000 b) (h:b≠0):Ev (fun k=>t7 k (fr a) (fr b)) (fr (a/b)):=by
 have h1:=E3f h
 have h2:=C5k ha (hb.inv h)
 rw [←Rat.div_def]at h2
 refine L4 (H8 h1 h2) ?_
 rintro k ⟨h1,h2⟩
 try dsimp only [fr]at h1 h2
 show t7 _ _ _=_
 unfold t7 B99
 simp only [fr,Ya,Yb,Yc,Yd,Ye,Yf,Yg,Yh,Yi,Yj,Yk,Int.reduceEq,reduceCtorEq,Yl,Ym,Yn,Yo,Yp,Yq,Yr,Ys,Yt,Yu,Yv,Yw,Yx,Yy,Yz,YA,YB,YC,h1,h2]
end
theorem D3k:Sm 1 0:=⟨by decide +kernel,by decide +kernel⟩
end Go.Proofs.YtijohnkgomcdbaaGreatV
set_option maxRecDepth 100000
namespace Go.Proofs.YtijohnkgomcdbaaGreatV
open Go Go.RowKit Go.Proofs.YtijohnkgomcdbaaGreat Go.Proofs.YtijohnkgomcdbaaGreatE Go.Proofs.YtijohnkgomcdbaaGreatN Go.Proofs.YtijohnkgomcdbaaGreat.All Go.Proofs.YtijohnkgomcdbaaGreatW.PrintWords Go.Proofs.YtijohnkgomcdbaaGreatW.PrintLast Go.Proofs.YtijohnkgomcdbaaGreatW.PrintMore
abbrev FP:=List FV
abbrev d0:FV:=((false,(⟨#[]⟩:ByteArray)),(⟨#[]⟩:ByteArray))
theorem C1 {β:Type} {c:Prop} [Decidable c] {a b:Nat→Option β} {r:β} (h:c) (k:Ev a r):Ev (fun n=>if c then a n else b n) r:=Ev.congr (fun n=>if_pos h) k
theorem C8 {β:Type} {c:Prop} [Decidable c] {a b:Nat→Option β} {r:β} (h:¬c) (k:Ev b r):Ev (fun n=>if c then a n else b n) r:=Ev.congr (fun n=>if_neg h) k
theorem A1K {β:Type} {c:Bool} {a b:Nat→Option β} {r:β} (h:c=true) (k:Ev a r):Ev (fun n=>B3 c (a n) (b n)) r:=by subst h;exact k
theorem A2m {β:Type} {c:Bool} {a b:Nat→Option β} {r:β} (h:c=false) (k:Ev b r):Ev (fun n=>B3 c (a n) (b n)) r:=by subst h;exact k
theorem P4 {β:Type} {i n m:Int} {a b:Nat→Option β} {r:β} (h1:i<n) (h0:0≤i) (h2:i<m) (k:Ev a r):Ev (fun x=>if i<n then(if 0≤i then(if i<m then a x else none)else none)else b x) r:=C1 h1 (C1 h0 (C1 h2 k))
theorem M6 {β:Type} {i m:Int} {a:Nat→Option β} {r:β} (h0:0≤i) (h2:i<m) (k:Ev a r):Ev (fun x=>if 0≤i then(if i<m then a x else none)else none) r:=C1 h0 (C1 h2 k)
theorem G0 {β:Type} {c d:Prop} [Decidable c] [Decidable d] {a b:Nat→Option β} {r1 r2:β} (e:c↔d) (h1:d→Ev a r1) (h2:¬d→Ev b r2):Ev (fun n=>if c then a n else b n) (if d then r1 else r2):=by
  by_cases h:d
  · rw [if_pos h];exact C1 (e.2 h) (h1 h)
  · rw [if_neg h];exact C8 (fun x=>h (e.1 x)) (h2 h)
theorem A5U {β:Type} {c:Bool} {a b:Nat→Option β} {r1 r2:β} (h1:c=true→Ev a r1) (h2:c=false→Ev b r2):Ev (fun n=>B3 c (a n) (b n)) (if c=true then r1 else r2):=by
  cases c with
  |true=>exact h1 rfl
  |false=>exact h2 rfl
theorem J5 {x:Int} (h1: -9223372036854775808≤x) (h2:x<9223372036854775808):wrap64 x=x:=by unfold wrap64;omega
theorem B8k {α:Type} {d:α} (pre:List α) (a:α) (post:List α):C4 d (pre++a::post) (pre.length:Int)=a:=by
  unfold C4;rw [Int.toNat_natCast,List.getD_eq_getElem?_getD,List.getElem?_append_right (Nat.le_refl _)];simp
theorem D3t {α S R:Type} {d:α} {l:List α} (hl:l.length<1099511627776) (g:Nat→Int→S→Option R) (F:Nat→S→List α→R) (I:Nat→S→Prop)
    (hT:∀s,I l.length s→Ev (fun k=>g (k+1) (l.length:Int) s) (F l.length s []))
    (hC:∀pre a post s,l=pre++a::post→(pre.length:Int)<l.length→C4 d l (pre.length:Int)=a→I pre.length s→
      (∀s',I (pre.length+1) s'→Ev (fun k=>g k (wrap64 ((pre.length:Int)+1)) s') (F (pre.length+1) s' post))→Ev (fun k=>g (k+1) (pre.length:Int) s) (F pre.length s (a::post))):
    ∀(post pre:List α) (s:S),l=pre++post→I pre.length s→Ev (fun k=>g k (pre.length:Int) s) (F pre.length s post)
  | [],pre,s,hp,hI=>by
    have e:l.length=pre.length:=by rw [hp,List.append_nil]
    refine Ev.step (f:=fun k=>g (k+1) (pre.length:Int) s) (fun k=>rfl) ?_
    have:=hT s (by rw [e];exact hI)
    rwa [e]at this
  | a::post,pre,s,hp,hI=>by
    have e:l.length=pre.length+post.length+1:=by rw [hp,List.length_append,List.length_cons];omega
    refine Ev.step (f:=fun k=>g (k+1) (pre.length:Int) s) (fun k=>rfl) ?_
    refine hC pre a post s hp (by omega) (by rw [hp];exact B8k pre a post) hI fun s' hI'=>?_
    have h:=D3t hl g F I hT hC post (pre++[a]) s' (by rw [hp,List.append_assoc];rfl) (by rw [List.length_append];exact hI')
    have e3:wrap64 ((pre.length:Int)+1)=((pre++[a]).length:Int):=by rw [J5 (by omega) (by omega),List.length_append];rfl
    rw [e3]
    rwa [show(pre++[a]).length=pre.length+1 from by rw [List.length_append];rfl]at h⊢
theorem Y1 {α S R:Type} {d:α} {l:List α} (hl:l.length<1099511627776) (g:Nat→Int→S→Option R) (F:Nat→S→List α→R) (I:Nat→S→Prop) (s:S) (h0:I 0 s)
    (hT:∀s,I l.length s→Ev (fun k=>g (k+1) (l.length:Int) s) (F l.length s []))
    (hC:∀pre a post s,l=pre++a::post→(pre.length:Int)<l.length→C4 d l (pre.length:Int)=a→I pre.length s→
      (∀s',I (pre.length+1) s'→Ev (fun k=>g k (wrap64 ((pre.length:Int)+1)) s') (F (pre.length+1) s' post))→Ev (fun k=>g (k+1) (pre.length:Int) s) (F pre.length s (a::post))):
    Ev (fun k=>g k 0 s) (F 0 s l):=D3t hl g F I hT hC l [] s rfl h0
theorem B5D {α:Type} {d:α} {l:List α} (hl:l.length<1099511627776) (hne:l≠[]):∃x,l.getLast?=some x∧(0:Int)<l.length∧0≤wrap64 ((l.length:Int)-1)∧wrap64 ((l.length:Int)-1)<(l.length:Int)∧C4 d l (wrap64 ((l.length:Int)-1))=x:=by
  have e:=List.dropLast_concat_getLast hne
  have hp:0<l.length:=List.length_pos_iff.2 hne
  have w:wrap64 ((l.length:Int)-1)=((l.dropLast.length:Nat):Int):=by rw [J5 (by omega) (by omega),List.length_dropLast];omega
  refine⟨l.getLast hne,List.getLast?_eq_some_getLast hne,by omega,by rw [w];omega,by rw [w,List.length_dropLast];omega,?_⟩
  rw [w]
  conv=>lhs;rw [←e]
  have:=B8k (d:=d) l.dropLast (l.getLast hne) []
  simpa using this
def N7 {α:Type} (ck:α→Int) (t:Int):List α→Int
  | []=>t
  |a::l=>if ck a≠0 then ck a else N7 ck t l
theorem C8f {α:Type} {ck:α→Int} {t:Int}:∀{l:List α},N7 ck t l=0→(∀x,x∈l→ck x=0)∧t=0
  | [],h=>⟨fun _ hx=>by simp at hx,h⟩
  | a::l,h=>by
    unfold N7 at h
    by_cases c:ck a≠0
    · rw [if_pos c]at h;exact absurd h c
    · rw [if_neg c]at h
      have ih:=C8f h
      exact⟨fun x hx=>by rcases List.mem_cons.1 hx with rfl|hx;exact Decidable.not_not.1 c;exact ih.1 x hx,ih.2⟩
def zq (x:FV):Bool:=E4 x.1.2 ⟨#[]⟩
def A6B (f:FP):Int:=match f.getLast? with|none=>0|some x=>if zq x=true then 1 else 0
def X7 (f:FP):Int:=if 65<f.length then 4 else N7 U5 (A6B f) f
theorem E8x {x:FV} (h:U5 x=0):Ev (fun k=>Q5 k x) (if zq x=true then 0 else if x.1.1=true then -1 else 1):=by
  obtain⟨a,rfl,_⟩:=D5T h
  have f1:=D3p a.num
  have e:zq (fr a)=decide (a.num=0):=by unfold zq fr;rw [E8];exact B7X a.num
  rw [e]
  have e2:(if decide (a.num=0)=true then(0:Int)else if(fr a).1.1=true then -1 else 1)=sgn a.num:=by
    unfold sgn fr ng
    by_cases c:a.num=0
    · simp [c]
    · by_cases c2:a.num<0<;>simp [c,c2]
  rw [e2]
  refine⟨0,fun k _=>?_⟩
  show Q5 _ _=_
  unfold Q5 B4S
  simp only [fr,A5V,Ya,Yb,Yc,Yd,Ye,Yf,Yg,Yh,Yi,Yj,Yk,Int.reduceEq,reduceCtorEq,Yl,Ym,Yn,Yo,Yp,Yq,Yr,Ys,Yt,Yu,Yv,Yw,Yx,Yy,Yz,YA,YB,YC,f1]
theorem B7l (x:FV):Ev (fun k=>I5 k x) (zq x):=Ev.now _
theorem F2q {α:Type} {l pre post:List α} {a:α} {p:α→Prop} (h:l=pre++a::post) (h1:∀x,x∈l.take pre.length→p x) (h2:p a):∀x,x∈l.take (pre.length+1)→p x:=by
  subst h
  intro x hx
  have e:(pre++a::post).take (pre.length+1)=pre++[a]:=by rw [List.take_append,List.take_of_length_le (Nat.le_succ _)];simp
  rw [e,List.mem_append]at hx
  rcases hx with hx|hx
  · exact h1 x (by rw [List.take_left];exact hx)
  · rw [List.mem_singleton.1 hx];exact h2
theorem D1O (f:FP):Ev (fun k=>w7 k f) (X7 f):=by
  show Ev (fun k=>B3q (A0w k) _) _
  unfold B3q
  refine G0 (by omega) (fun _=>Ev.now _) fun c=>Y1 (d:=d0) (by omega) (fun k i (_:Unit)=>A0w k f f (f.length:Int) i) (fun _ _=>N7 U5 (A6B f)) (fun _ _=>True) () trivial ?_ ?_
  · intro _ _
    show Ev (fun k=>A7x (A0w k) (I5 k) (N1 k) _ _ _ _) _
    unfold A7x
    refine C8 (Int.lt_irrefl _) ?_
    show Ev _ (A6B f)
    unfold A6B
    by_cases hn:f=[]
    · subst hn;exact C8 (by simp) (Ev.now _)
    · obtain⟨x,h1,h2,h3,h4,h5⟩:=B5D (d:=d0) (by omega:f.length<1099511627776) hn
      rw [h5,h1]
      exact C1 h2 (C1 h3 (C1 h4 (Ev.bind (B7l x) (A5U (fun _=>Ev.now _) fun _=>Ev.now _))))
  · intro pre a post _ hp hi hr _ ih
    show Ev (fun k=>A7x (A0w k) (I5 k) (N1 k) _ _ _ _) _
    unfold A7x
    refine P4 hi (by omega) hi ?_
    rw [hr]
    exact Ev.bind (F3Z a) (G0 Iff.rfl (fun _=>Ev.now _) fun _=>ih () trivial)
theorem C3d (f:FP):Ev (fun k=>T7 k f) (X7 f):=by
  show Ev (fun k=>B69 (A0E k) _) _
  unfold B69
  refine G0 (by omega) (fun _=>Ev.now _) fun c=>Y1 (d:=d0) (by omega) (fun k i (_:Unit)=>A0E k f f (f.length:Int) i) (fun _ _=>N7 U5 (A6B f)) (fun n _=>∀x,x∈f.take n→U5 x=0) () (by simp) ?_ ?_
  · intro _ hI
    show Ev (fun k=>A9F (A0E k) (Q5 k) (L7 k) _ _ _ _) _
    unfold A9F
    refine C8 (Int.lt_irrefl _) ?_
    show Ev _ (A6B f)
    unfold A6B
    by_cases hn:f=[]
    · subst hn;exact C8 (by simp) (Ev.now _)
    · obtain⟨x,h1,h2,h3,h4,h5⟩:=B5D (d:=d0) (by omega:f.length<1099511627776) hn
      rw [h5,h1]
      refine C1 h2 (C1 h3 (C1 h4 (Ev.bind (E8x (hI x (by rw [List.take_length];exact List.mem_of_getLast? h1))) ?_)))
      show Ev _ (if zq x=true then 1 else 0)
      cases zq x with
      |true=>exact C1 rfl (Ev.now _)
      |false=>cases x.1.1<;>exact C8 (by decide) (Ev.now _)
  · intro pre a post _ hp hi hr hI ih
    show Ev (fun k=>A9F (A0E k) (Q5 k) (L7 k) _ _ _ _) _
    unfold A9F
    refine P4 hi (by omega) hi ?_
    rw [hr]
    exact Ev.bind (D2X a) (G0 Iff.rfl (fun _=>Ev.now _) fun c2=>ih () (F2q hp hI (Decidable.not_not.1 c2)))
end Go.Proofs.YtijohnkgomcdbaaGreatV
set_option maxRecDepth 100000
namespace Go.Proofs.YtijohnkgomcdbaaGreatV
open Go Go.RowKit YtijohnkgomcdbaaGreat YtijohnkgomcdbaaGreatE YtijohnkgomcdbaaGreatN YtijohnkgomcdbaaGreat.All YtijohnkgomcdbaaGreatW.PrintWords YtijohnkgomcdbaaGreatW.PrintLast YtijohnkgomcdbaaGreatW.PrintMore
theorem Sm.quo {n d:Int} {s:Nat} (hn:(ab n).size≤s) (hd:(ab d).size≤s) (h0:d≠0):Sm s (Rat.divInt n d):=by
 have e:=B9U (n:=n) h0
 unfold fr at e
 rw [Prod.mk.injEq,Prod.mk.injEq,B8U]at e
 exact⟨by rw [←e.1.2];exact Nat.le_trans (C9h _ _) hn,by rw [←e.2];exact Nat.le_trans (C9h _ _) hd⟩
theorem F8O {x:Int} (h1: -9223372036854775808≤x) (h2:x<9223372036854775808):Ev (fun k=>exact_IntOf.f k x) (ng x,ab x):=by
 by_cases h:x<0
 ·rw [A4t h]
  have e:IntKind.u64.wrap (-(IntKind.u64.wrap x))=((x.natAbs:Nat):Int):=by
   rw [IntKind.wrap_u64,IntKind.wrap_u64]
   omega
  have:=D4J (u:=x.natAbs) (by omega)
  rw [←e]at this
  exact Ev.congr (fun k=>if_pos h) (Ev.bind this (Ev.now _))
 ·rw [A4l (by omega)]
  have e:IntKind.u64.wrap x=((x.natAbs:Nat):Int):=by
   rw [IntKind.wrap_u64]
   omega
  have:=D4J (u:=x.natAbs) (by omega)
  rw [←e]at this
  exact Ev.congr (fun k=>if_neg h) (Ev.bind this (Ev.now _))
end Go.Proofs.YtijohnkgomcdbaaGreatV
set_option maxRecDepth 100000
namespace Go.Proofs.YtijohnkgomcdbaaGreatV
open Go Go.RowKit Go.Proofs.YtijohnkgomcdbaaGreat Go.Proofs.YtijohnkgomcdbaaGreatE Go.Proofs.YtijohnkgomcdbaaGreatN Go.Proofs.YtijohnkgomcdbaaGreat.All Go.Proofs.YtijohnkgomcdbaaGreatW.PrintWords Go.Proofs.YtijohnkgomcdbaaGreatW.PrintLast Go.Proofs.YtijohnkgomcdbaaGreatW.PrintMore
theorem B8R {i:Int} (h1: -9223372036854775808≤i) (h2:i<9223372036854775808):Ev (fun k=>E2 k i) (fr (i:Rat)):=by
  have h:=F8O h1 h2
  rw [B9Q,A9p]
  refine L4 h ?_
  rintro k h
  try dsimp only [fr]at h
  show E2 _ _=_
  unfold E2 B89
  simp only [fr,R9,A2y,A5s,Ya,Yb,Yc,Yd,Ye,Yf,Yg,Yh,Yi,Yj,Yk,Int.reduceEq,reduceCtorEq,Yl,Ym,Yn,Yo,Yp,Yq,Yr,Ys,Yt,Yu,Yv,Yw,Yx,Yy,Yz,YA,YB,YC,h]
theorem B3V {i:Int} (h1: -9223372036854775808≤i) (h2:i<9223372036854775808):Ev (fun k=>E6 k i) (fr (i:Rat)):=by
  have h:=D9m h1 h2
  rw [B9Q,A9p]
  refine L4 h ?_
  rintro k h
  try dsimp only [fr]at h
  show E6 _ _=_
  unfold E6 B81
  simp only [fr,A5g,Ya,Yb,Yc,Yd,Ye,Yf,Yg,Yh,Yi,Yj,Yk,Int.reduceEq,reduceCtorEq,Yl,Ym,Yn,Yo,Yp,Yq,Yr,Ys,Yt,Yu,Yv,Yw,Yx,Yy,Yz,YA,YB,YC,h]
def ix {α:Type} (p:α→Bool):Nat→List α→Int
  |_,[]=> -1
  |n,a::l=>if p a=true then(n:Int)else ix p (n+1) l
theorem C0n {α:Type} (p:α→Bool):∀(l:List α) (n:Nat),decide (ix p n l≥0)=l.any p
  | [],n=>rfl
  | a::l,n=>by
    unfold ix
    rw [List.any_cons]
    cases hp:p a with
    |true=>rw [if_pos rfl];simp
    |false=>rw [if_neg (by decide),C0n p l,Bool.false_or]
theorem C3y {f:FP} (h:X7 f=0):f.length≤65:=by
  unfold X7 at h
  by_cases c:65<f.length
  · rw [if_pos c]at h;cases h
  · omega
def B1T (x:FV):Bool:=(((x.1.1==(fr ((1:Int):Rat)).1.1)&&(E4 x.1.2 (fr ((1:Int):Rat)).1.2))&&(E4 x.2 (fr ((1:Int):Rat)).2))
def B2p (m:FP):Bool:=match m.getLast? with|none=>false|some x=>B1T x
def wh (x:FV):Bool:=E4 x.2 ⟨#[1]⟩
def form (m:FP):Int:=if X7 m≠0 then X7 m else if m.length<2 then 1 else if(!B2p m)=true then 1 else if(!m.all wh)=true then 1 else if 25<m.length then 4 else 0
theorem E0Q {m:FP} (hl:m.length<1099511627776):Ev (fun k=>A5z k m) (ix (fun x=>!wh x) 0 m):=by
  show Ev (fun k=>B4m (A0k k) _) _
  unfold B4m
  refine Y1 (d:=d0) hl (fun k i (_:Unit)=>A0k k m (m.length:Int) i) (fun n _ l=>ix (fun x=>!wh x) n l) (fun _ _=>True) () trivial ?_ ?_
  · intro _ _
    show Ev (fun k=>A8Z (A0k k) (A2L k) _ _ _) _
    unfold A8Z
    exact C8 (Int.lt_irrefl _) (Ev.now _)
  · intro pre a post _ hp hi hr _ ih
    show Ev (fun k=>A8Z (A0k k) (A2L k) _ _ _) _
    unfold A8Z
    refine P4 hi (by omega) hi ?_
    rw [hr]
    have h1:Ev (fun k=>A2L k a) (!wh a):=Ev.now _
    exact Ev.bind h1 (A5U (fun _=>Ev.now _) fun _=>ih () trivial)
theorem F2u {α:Type} (p:α→Bool) (l:List α):l.any (fun x=>!p x)=!l.all p:=by
  induction l with
  |nil=>rfl
  |cons a l ih=>rw [List.any_cons,List.all_cons,ih,Bool.not_and]
theorem D4K {m:FP} {x:FV} (h1:m.getLast?=some x):B2p m=B1T x:=by unfold B2p;rw [h1]
theorem F5X (m:FP):Ev (fun k=>A3v k m) (form m):=by
  show Ev (fun k=>B5o (E2 k) (w7 k) (A5Q k) _) _
  unfold B5o
  refine Ev.bind (D1O m) (G0 Iff.rfl (fun _=>Ev.now _) fun c=>?_)
  have hl:=C3y (Decidable.not_not.1 c)
  have w:wrap64 ((m.length:Int)-1)=(m.length:Int)-1:=J5 (by omega) (by omega)
  refine G0 (by rw [w];omega) (fun _=>Ev.now _) fun c2=>?_
  obtain⟨x,h1,h2,h3,h4,h5⟩:=B5D (d:=d0) (by omega:m.length<1099511627776) (fun e=>c2 (by rw [e];decide))
  refine C1 h3 (C1 h4 (Ev.bind (B8R (by decide) (by decide)) ?_))
  rw [h5,D4K h1]
  refine A5U (c:=!B1T x) (fun _=>Ev.now _) fun _=>?_
  have h6:Ev (fun k=>A5Q k m) (!m.all wh):=by
    rw [←F2u,←C0n _ _ 0]
    exact Ev.bind (E0Q (by omega)) (Ev.now _)
  refine Ev.bind h6 (A5U (fun _=>Ev.now _) fun _=>?_)
  exact G0 (by rw [w];omega) (fun _=>Ev.now _) fun _=>Ev.now _
theorem D0j {m:FP} (hl:m.length<1099511627776):Ev (fun k=>S6 k m) ((m.length:Int)-1):=by
  have w:wrap64 ((m.length:Int)-1)=(m.length:Int)-1:=J5 (by omega) (by omega)
  show Ev (fun k=>some (wrap64 ((m.length:Int)-1))) _
  rw [w];exact Ev.now _
theorem B3g (m:FP):Ev (fun k=>K0 k m) (form m):=by
  show Ev (fun k=>B13 (A0t k) (T7 k) (Z0 k) (E6 k) _) _
  unfold B13
  refine Ev.bind (C3d m) (G0 Iff.rfl (fun _=>Ev.now _) fun c=>?_)
  have hl:=C3y (Decidable.not_not.1 c)
  refine G0 (by omega) (fun _=>Ev.now _) fun c2=>?_
  obtain⟨x,h1,h2,h3,h4,h5⟩:=B5D (d:=d0) (by omega:m.length<1099511627776) (fun e=>c2 (by rw [e];decide))
  have hL:Ev (fun k=>Z0 k m) x:=by
    show Ev (fun k=>B80 (E6 k) _) _
    unfold B80
    refine C8 (by omega) (C1 h3 (C1 h4 ?_))
    rw [h5];exact Ev.now x
  refine Ev.bind hL (Ev.bind (B3V (by decide) (by decide)) ?_)
  rw [D4K h1]
  refine A5U (c:=!B1T x) (fun _=>Ev.now _) fun _=>?_
  refine Y1 (d:=d0) (by omega) (fun k i (_:Unit)=>A0t k m (m.length:Int) i m) (fun _ _ l=>if(!l.all wh)=true then 1 else if 25<m.length then 4 else 0) (fun _ _=>True) () trivial ?_ ?_
  · intro _ _
    show Ev (fun k=>A6w (A0t k) (S6 k) (A1e k) _ _ _ _) _
    unfold A6w
    refine C8 (Int.lt_irrefl _) (Ev.bind (D0j (by omega)) ?_)
    show Ev _ (if 25<m.length then(4:Int)else 0)
    exact G0 (by show(m.length:Int)-1>24↔_;omega) (fun _=>Ev.now _) fun _=>Ev.now _
  · intro pre a post _ hp hi hr _ ih
    show Ev (fun k=>A6w (A0t k) (S6 k) (A1e k) _ _ _ _) _
    unfold A6w
    refine P4 hi (by omega) hi ?_
    rw [hr,List.all_cons]
    have h6:Ev (fun k=>A1e k a) (wh a):=Ev.now _
    refine Ev.bind h6 ?_
    cases h:wh a with
    |false=>exact A1K rfl (Ev.now _)
    |true=>rw [Bool.true_and];exact A2m rfl (ih () trivial)
theorem B7C {m:FP} (h:form m=0):X7 m=0∧2≤m.length∧m.length≤25:=by
  unfold form at h
  by_cases c:X7 m≠0
  · rw [if_pos c]at h;exact absurd h c
  · rw [if_neg c]at h
    by_cases c2:m.length<2
    · rw [if_pos c2]at h;cases h
    · rw [if_neg c2]at h
      split at h
      · cases h
      · split at h
        · cases h
        · split at h
          · cases h
          · exact⟨Decidable.not_not.1 c,by omega,by omega⟩
def elt (m a:FP):Int:=if X7 a≠0 then X7 a else if m.length≤a.length then 3 else 0
theorem E5K (m a:FP):Ev (fun k=>o3 k m a) (elt m a):=by
  show Ev (fun k=>B3F (w7 k) _ _) _
  unfold B3F
  exact Ev.bind (D1O a) (G0 Iff.rfl (fun _=>Ev.now _) fun c=>G0 (by omega) (fun _=>Ev.now _) fun _=>Ev.now _)
theorem F5N {m:FP} (a:FP) (hm:form m=0):Ev (fun k=>A2W k m a) (elt m a):=by
  show Ev (fun k=>B55 (K0 k) (S6 k) (T7 k) _ _) _
  unfold B55
  unfold elt
  have hl:=B7C hm
  have h1:=B3g m
  rw [hm]at h1
  refine Ev.bind h1 (C8 (by decide) (Ev.bind (C3d a) ?_))
  by_cases c:X7 a=0
  · rw [c]
    exact C1 rfl (Ev.bind (D0j (by omega)) (G0 (d:=m.length≤a.length) (by omega) (fun _=>Ev.now _) fun _=>Ev.now _))
  · have:=C8 (a:=fun k=>(S6 k m).bind fun r3=>(if(a.length:Int)>r3 then(some 3)else(some (X7 a)))) c (Ev.now (X7 a))
    rw [if_pos c];exact this
def B4k (f:List FP):Int:=match f.getLast? with|none=>0|some x=>if x.length=0 then 1 else 0
def fck (m:FP) (f:List FP):Int:=if 65<f.length then 4 else N7 (elt m) (B4k f) f
def kck (m:FP) (f:List FP):Int:=if form m≠0 then form m else fck m f
theorem D2Z {f:List FP} (hl:f.length<1099511627776):Ev (fun(k:Nat)=>if(f.length:Int)>0 then(if 0≤wrap64 ((f.length:Int)-1)then(if wrap64 ((f.length:Int)-1)<(f.length:Int)then(if((C4 ([]:FP) f (wrap64 ((f.length:Int)-1))).length:Int)=0 then(some 1)else(some 0))else(none))else(none))else(some (0:Int))) (B4k f):=by
  unfold B4k
  by_cases hn:f=[]
  · subst hn;exact C8 (by simp) (Ev.now _)
  · obtain⟨x,h1,h2,h3,h4,h5⟩:=B5D (d:=([]:FP)) hl hn
    rw [h5,h1]
    exact C1 h2 (C1 h3 (C1 h4 (G0 (by omega) (fun _=>Ev.now _) fun _=>Ev.now _)))
theorem F0s (m:FP) (f:List FP):Ev (fun k=>A1y k m f) (fck m f):=by
  show Ev (fun k=>B3w (A0D k) _ _) _
  unfold B3w
  refine G0 (by omega) (fun _=>Ev.now _) fun c=>Y1 (d:=([]:FP)) (by omega) (fun k i (_:Unit)=>A0D k f f (f.length:Int) i m) (fun _ _=>N7 (elt m) (B4k f)) (fun _ _=>True) () trivial ?_ ?_
  · intro _ _
    show Ev (fun k=>A9R (A0D k) (o3 k) _ _ _ _ _) _
    unfold A9R
    exact C8 (Int.lt_irrefl _) (D2Z (by omega))
  · intro pre a post _ hp hi hr _ ih
    show Ev (fun k=>A9R (A0D k) (o3 k) _ _ _ _ _) _
    unfold A9R
    refine P4 hi (by omega) hi ?_
    rw [hr]
    exact Ev.bind (E5K m a) (G0 Iff.rfl (fun _=>Ev.now _) fun _=>ih () trivial)
theorem B6A (m:FP) (f:List FP):Ev (fun k=>S1 k m f) (kck m f):=by
  show Ev (fun k=>B14 (A0e k) (K0 k) _ _) _
  unfold B14
  refine Ev.bind (B3g m) (G0 Iff.rfl (fun _=>Ev.now _) fun c0=>G0 (by omega) (fun _=>Ev.now _) fun c=>Y1 (d:=([]:FP)) (by omega) (fun k i (_:Unit)=>A0e k f f (f.length:Int) i m) (fun _ _=>N7 (elt m) (B4k f)) (fun _ _=>True) () trivial ?_ ?_)
  · intro _ _
    show Ev (fun k=>A9Y (A0e k) (A2W k) _ _ _ _ _) _
    unfold A9Y
    exact C8 (Int.lt_irrefl _) (D2Z (by omega))
  · intro pre a post _ hp hi hr _ ih
    show Ev (fun k=>A9Y (A0e k) (A2W k) _ _ _ _ _) _
    unfold A9Y
    refine P4 hi (by omega) hi ?_
    rw [hr]
    exact Ev.bind (F5N a (Decidable.not_not.1 c0)) (G0 Iff.rfl (fun _=>Ev.now _) fun _=>ih () trivial)
def fst (m:FP) (l:List (List FP)):Int:=if form m≠0 then form m else N7 (fck m) 0 l
theorem B6V (m:FP) {l:List (List FP)} (hl:l.length<1099511627776):Ev (fun k=>F8 k m l) (fst m l):=by
  show Ev (fun k=>B83 (A0y k) (A3v k) _ _) _
  unfold B83
  refine Ev.bind (F5X m) (G0 Iff.rfl (fun _=>Ev.now _) fun c=>Y1 (d:=([]:List FP)) hl (fun k i (_:Unit)=>A0y k l (l.length:Int) i m) (fun _ _=>N7 (fck m) 0) (fun _ _=>True) () trivial ?_ ?_)
  · intro _ _
    show Ev (fun k=>A8R (A0y k) (A1y k) _ _ _ _) _
    unfold A8R
    exact C8 (Int.lt_irrefl _) (Ev.now _)
  · intro pre a post _ hp hi hr _ ih
    show Ev (fun k=>A8R (A0y k) (A1y k) _ _ _ _) _
    unfold A8R
    refine P4 hi (by omega) hi ?_
    rw [hr]
    exact Ev.bind (F0s m a) (G0 Iff.rfl (fun _=>Ev.now _) fun _=>ih () trivial)
theorem E9r {l:List Int} (hl:l.length<1099511627776):Ev (fun k=>A5I k l) (N7 id 0 l):=by
  show Ev (fun k=>B34 (z9 k) _) _
  unfold B34
  refine Y1 (d:=(0:Int)) hl (fun k i (_:Unit)=>z9 k l (l.length:Int) i) (fun _ _=>N7 id 0) (fun _ _=>True) () trivial ?_ ?_
  · intro _ _
    show Ev (fun k=>A7m (z9 k) _ _ _) _
    unfold A7m
    exact C8 (Int.lt_irrefl _) (Ev.now _)
  · intro pre a post _ hp hi hr _ ih
    show Ev (fun k=>A7m (z9 k) _ _ _) _
    unfold A7m
    have hr':rd l (pre.length:Int)=a:=hr
    refine P4 hi (by omega) hi ?_
    rw [hr']
    exact G0 (d:=id a≠0) Iff.rfl (fun _=>Ev.now _) fun _=>ih () trivial
def sm8 (x:FV):Bool:=if 8<x.1.2.size then false else if 8<x.2.size then false else true
def few (f:FP) (n:Nat):Bool:=if n+1<f.length then false else if X7 f≠0 then false else f.all sm8
theorem F4N (f:FP) {n:Nat} (hn:n<1000):Ev (fun k=>A5J k f (n:Int)) (few f n):=by
  show Ev (fun k=>B70 (A0X k) (T7 k) _ _) _
  unfold B70
  have w:wrap64 ((n:Int)+1)=(n:Int)+1:=J5 (by omega) (by omega)
  rw [w]
  refine G0 (by omega) (fun _=>Ev.now _) fun c=>Ev.bind (C3d f) (G0 Iff.rfl (fun _=>Ev.now _) fun _=>?_)
  refine Y1 (d:=d0) (by omega) (fun k i (_:Unit)=>A0X k f (f.length:Int) i) (fun _ _ l=>l.all sm8) (fun _ _=>True) () trivial ?_ ?_
  · intro _ _
    show Ev (fun k=>A8K (A0X k) _ _ _) _
    unfold A8K
    exact C8 (Int.lt_irrefl _) (Ev.now _)
  · intro pre a post _ hp hi hr _ ih
    show Ev (fun k=>A8K (A0X k) _ _ _) _
    unfold A8K
    refine P4 hi (by omega) hi ?_
    rw [hr,List.all_cons]
    have e:(sm8 a&&post.all sm8)=if 8<a.1.2.size then false else if 8<a.2.size then false else post.all sm8:=by
      unfold sm8
      split
      · rfl
      · split<;>simp
    rw [e]
    exact G0 (by omega) (fun _=>Ev.now _) fun _=>G0 (by omega) (fun _=>Ev.now _) fun _=>ih () trivial
def B0I (m a:FP):Bool:=if form m=0 then(if a.length≤m.length-1 then few a (m.length-1)else false)else false
theorem F0w (m a:FP):Ev (fun k=>A2t k m a) (B0I m a):=by
  show Ev (fun k=>B49 (K0 k) (S6 k) (A5J k) _ _) _
  unfold B49
  refine Ev.bind (B3g m) (G0 Iff.rfl (fun c=>?_) fun _=>Ev.now _)
  have hl:=B7C c
  have e:(m.length:Int)-1=((m.length-1:Nat):Int):=by omega
  have hd:=D0j (m:=m) (by omega)
  rw [e]at hd
  exact Ev.bind hd (G0 (by show(a.length:Int)≤((m.length-1:Nat):Int)↔_;omega) (fun _=>Ev.bind hd (Ev.bind (F4N a (by omega)) (Ev.now _))) fun _=>Ev.now _)
def sm4 (x:FV):Bool:=if 4<x.1.2.size then false else true
def A5B (m:FP) (n:Nat):Bool:=if n+1<m.length then false else if form m≠0 then false else m.all sm4
theorem D4H (m:FP) {n:Nat} (hn:n<1000):Ev (fun k=>Z5 k m (n:Int)) (A5B m n):=by
  show Ev (fun k=>B79 (A0h k) (K0 k) _ _) _
  unfold B79
  have w:wrap64 ((n:Int)+1)=(n:Int)+1:=J5 (by omega) (by omega)
  rw [w]
  refine G0 (by omega) (fun _=>Ev.now _) fun c=>Ev.bind (B3g m) (G0 Iff.rfl (fun _=>Ev.now _) fun _=>?_)
  refine Y1 (d:=d0) (by omega) (fun k i (_:Unit)=>A0h k m (m.length:Int) i) (fun _ _ l=>l.all sm4) (fun _ _=>True) () trivial ?_ ?_
  · intro _ _
    show Ev (fun k=>A7T (A0h k) _ _ _) _
    unfold A7T
    exact C8 (Int.lt_irrefl _) (Ev.now _)
  · intro pre a post _ hp hi hr _ ih
    show Ev (fun k=>A7T (A0h k) _ _ _) _
    unfold A7T
    refine P4 hi (by omega) hi ?_
    rw [hr,List.all_cons]
    have e:(sm4 a&&post.all sm4)=if 4<a.1.2.size then false else post.all sm4:=by
      unfold sm4
      split
      · rfl
      · simp
    rw [e]
    exact G0 (by omega) (fun _=>Ev.now _) fun _=>ih () trivial
def A9M (m:FP) (f:List FP) (n d:Nat):Bool:=if(!A5B m n)=true then false else if d+1<f.length then false else if kck m f≠0 then false else f.all (B0I m)
theorem F6E (m:FP) (f:List FP) {n d:Nat} (hn:n<1000) (hd:d<1000):Ev (fun k=>A2h k m f (n:Int) (d:Int)) (A9M m f n d):=by
  show Ev (fun k=>B26 (z8 k) (S1 k) (Z5 k) _ _ _ _) _
  unfold B26
  have w:wrap64 ((d:Int)+1)=(d:Int)+1:=J5 (by omega) (by omega)
  rw [w]
  refine Ev.bind (D4H m hn) (A5U (fun _=>Ev.now _) fun _=>G0 (by omega) (fun _=>Ev.now _) fun c=>Ev.bind (B6A m f) (G0 Iff.rfl (fun _=>Ev.now _) fun _=>?_))
  refine Y1 (d:=([]:FP)) (by omega) (fun k i (_:Unit)=>z8 k f (f.length:Int) i m) (fun _ _ l=>l.all (B0I m)) (fun _ _=>True) () trivial ?_ ?_
  · intro _ _
    show Ev (fun k=>A8b (z8 k) (A2t k) _ _ _ _) _
    unfold A8b
    exact C8 (Int.lt_irrefl _) (Ev.now _)
  · intro pre a post _ hp hi hr _ ih
    show Ev (fun k=>A8b (z8 k) (A2t k) _ _ _ _) _
    unfold A8b
    refine P4 hi (by omega) hi ?_
    rw [hr,List.all_cons]
    refine Ev.bind (F0w m a) ?_
    cases B0I m a with
    |false=>exact A1K rfl (Ev.now _)
    |true=>rw [Bool.true_and];exact A2m rfl (ih () trivial)
def bad (m:FP) (f:List FP):Bool:=if kck m f=0 then !A9M m f 4 4 else false
def B9i (m:FP) (l:List (List FP)):Bool:=if form m≠0 then false else if l.any (bad m)=true then true else !A5B m 4
theorem E3s (m:FP) {l:List (List FP)} (hl:l.length<1099511627776):Ev (fun k=>A4I k m l) (B9i m l):=by
  show Ev (fun k=>B12 (A0R k) (K0 k) _ _) _
  unfold B12
  refine Ev.bind (B3g m) (G0 Iff.rfl (fun _=>Ev.now _) fun _=>?_)
  refine Y1 (d:=([]:List FP)) hl (fun k i (_:Unit)=>A0R k l (l.length:Int) i m) (fun _ _ l=>if l.any (bad m)=true then true else !A5B m 4) (fun _ _=>True) () trivial ?_ ?_
  · intro _ _
    show Ev (fun k=>A8t (A0R k) (S1 k) (A2h k) (Z5 k) _ _ _ _) _
    unfold A8t
    exact C8 (Int.lt_irrefl _) (Ev.bind (D4H m (n:=4) (by omega)) (Ev.now _))
  · intro pre a post _ hp hi hr _ ih
    show Ev (fun k=>A8t (A0R k) (S1 k) (A2h k) (Z5 k) _ _ _ _) _
    unfold A8t
    refine P4 hi (by omega) hi ?_
    rw [hr,List.any_cons]
    refine Ev.bind (B6A m a) ?_
    unfold bad
    by_cases c:kck m a=0
    · rw [if_pos c]
      refine C1 c (Ev.bind (F6E m a (n:=4) (d:=4) (by omega) (by omega)) ?_)
      cases A9M m a 4 4 with
      |false=>exact A1K rfl (Ev.now _)
      |true=>exact A2m rfl (ih () trivial)
    · rw [if_neg c,Bool.false_or]
      exact C8 c (ih () trivial)
theorem F8G {a b:Rat} (h:fr a=fr b):a=b:=by
  unfold fr at h
  rw [Prod.mk.injEq,Prod.mk.injEq]at h
  exact Rat.ext (Go.Proofs.YtijohnkgomcdbaaGreatN.int_inj h.1.1 h.1.2) (B1p.1 h.2)
theorem B3J (a:Rat):zq (fr a)=decide (a=0):=by
  have e:zq (fr a)=decide (a.num=0):=by unfold zq fr;rw [E8];exact B7X a.num
  rw [e,Bool.eq_iff_iff,decide_eq_true_eq,decide_eq_true_eq,Rat.num_eq_zero]
theorem F3P {f:FP} {n:Nat} (h:∀x,x∈f→∃a:Rat,x=fr a∧Sm n a):∃g:List Rat,f=g.map fr∧∀a,a∈g→Sm n a:=by
  induction f with
  |nil=>exact⟨[],rfl,fun a ha=>by simp at ha⟩
  | cons x f ih=>
    obtain⟨g,rfl,hg⟩:=ih fun y hy=>h y (List.mem_cons_of_mem _ hy)
    obtain⟨a,rfl,ha⟩:=h x List.mem_cons_self
    exact⟨a::g,rfl,fun b hb=>by rcases List.mem_cons.1 hb with rfl|hb;exact ha;exact hg b hb⟩
theorem D9r {f:FP} (h:X7 f=0):f.length≤65∧(∀x,x∈f→U5 x=0)∧∀x,f.getLast?=some x→zq x=false:=by
  have hl:=C3y h
  unfold X7 at h
  rw [if_neg (by omega)]at h
  obtain⟨h1,h2⟩:=C8f h
  refine⟨hl,h1,fun x hx=>?_⟩
  unfold A6B at h2
  rw [hx]at h2
  cases hz:zq x with
  |false=>rfl
  |true=>simp [hz]at h2
theorem D6v {f:FP} (h:X7 f=0):∃g:List Rat,f=g.map fr∧(∀a,a∈g→Sm 1024 a)∧g.length≤65∧∀a,g.getLast?=some a→a≠0:=by
  obtain⟨h1,h2,h3⟩:=D9r h
  obtain⟨g,rfl,hg⟩:=F3P (n:=1024) fun x hx=>D5T (h2 x hx)
  refine⟨g,rfl,hg,by rwa [List.length_map]at h1,fun a ha h0=>?_⟩
  have:=h3 (fr a) (by rw [List.getLast?_map,ha];rfl)
  rw [B3J,decide_eq_false_iff_not]at this
  exact this h0
theorem E4U {f:FP} {n:Nat} (h:few f n=true):∃g:List Rat,f=g.map fr∧(∀a,a∈g→Sm 8 a)∧g.length≤n+1∧∀a,g.getLast?=some a→a≠0:=by
  unfold few at h
  by_cases c:n+1<f.length
  · rw [if_pos c]at h;cases h
  · rw [if_neg c]at h
    by_cases c2:X7 f≠0
    · rw [if_pos c2]at h;cases h
    · rw [if_neg c2]at h
      obtain⟨g,rfl,hg,hl,hz⟩:=D6v (Decidable.not_not.1 c2)
      rw [List.length_map]at c
      refine⟨g,rfl,fun a ha=>?_,by omega,hz⟩
      have h1:=List.all_eq_true.1 h (fr a) (List.mem_map_of_mem ha)
      unfold sm8 at h1
      split at h1
      · cases h1
      · split at h1
        · cases h1
        · rename_i h2 h3
          exact⟨Nat.not_lt.1 h2,Nat.not_lt.1 h3⟩
theorem E3M {m:FP} {f:List FP} {n d:Nat} (h:A9M m f n d=true):∃g:List (List Rat),f=g.map (List.map fr)∧(∀a,a∈g→(∀q,q∈a→Sm 8 q)∧(∀q,a.getLast?=some q→q≠0)∧a.length<m.length)∧g.length≤d+1:=by
  unfold A9M at h
  split at h
  · cases h
  · split at h
    · cases h
    · rename_i c
      split at h
      · cases h
      · have h1:=List.all_eq_true.1 h
        have:∀l:List FP,(∀a,a∈l→B0I m a=true)→∃g:List (List Rat),l=g.map (List.map fr)∧∀a,a∈g→(∀q,q∈a→Sm 8 q)∧(∀q,a.getLast?=some q→q≠0)∧a.length<m.length:=by
          intro l
          induction l with
          |nil=>exact fun _=>⟨[],rfl,fun a ha=>by simp at ha⟩
          | cons x l ih=>
            intro hl
            obtain⟨g,rfl,hg⟩:=ih fun y hy=>hl y (List.mem_cons_of_mem _ hy)
            have hx:=hl x List.mem_cons_self
            unfold B0I at hx
            split at hx
            · rename_i hm
              split at hx
              · rename_i hlen
                obtain⟨b,rfl,h2,h3,h4⟩:=E4U hx
                rw [List.length_map]at hlen
                have:=B7C hm
                exact⟨b::g,rfl,fun a ha=>by rcases List.mem_cons.1 ha with rfl|ha;exact⟨h2,h4,by omega⟩;exact hg a ha⟩
              · cases hx
            · cases hx
        obtain⟨g,rfl,hg⟩:=this f h1
        exact⟨g,rfl,hg,by rw [List.length_map]at c;omega⟩
theorem D2u {α β S R:Type} {d:α} {e:β→α} {l:List β} (hl:l.length<1099511627776) (g:Nat→Int→S→Option R) (F:List β→S→List β→R) (I:List β→S→Prop)
    (hT:∀s,I l s→Ev (fun k=>g (k+1) (l.length:Int) s) (F l s []))
    (hC:∀pre a post s,l=pre++a::post→(pre.length:Int)<l.length→C4 d (l.map e) (pre.length:Int)=e a→I pre s→
      (∀s',I (pre++[a]) s'→Ev (fun k=>g k (wrap64 ((pre.length:Int)+1)) s') (F (pre++[a]) s' post))→Ev (fun k=>g (k+1) (pre.length:Int) s) (F pre s (a::post))):
    ∀(post pre:List β) (s:S),l=pre++post→I pre s→Ev (fun k=>g k (pre.length:Int) s) (F pre s post)
  | [],pre,s,hp,hI=>by
    have h0:l=pre:=by rw [hp,List.append_nil]
    subst h0
    exact Ev.step (f:=fun k=>g (k+1) (l.length:Int) s) (fun k=>rfl) (hT s hI)
  | a::post,pre,s,hp,hI=>by
    have h1:l.length=pre.length+post.length+1:=by rw [hp,List.length_append,List.length_cons];omega
    refine Ev.step (f:=fun k=>g (k+1) (pre.length:Int) s) (fun k=>rfl) ?_
    refine hC pre a post s hp (by omega) ?_ hI fun s' hI'=>?_
    · rw [hp,List.map_append,List.map_cons]
      have:=B8k (d:=d) (pre.map e) (e a) (post.map e)
      rwa [List.length_map]at this
    have h:=D2u hl g F I hT hC post (pre++[a]) s' (by rw [hp,List.append_assoc];rfl) hI'
    have e3:wrap64 ((pre.length:Int)+1)=((pre++[a]).length:Int):=by rw [J5 (by omega) (by omega),List.length_append];rfl
    rw [e3];exact h
def J4 {α:Type} (p:α→Bool) (l:List α):List α:=(l.reverse.dropWhile p).reverse
theorem B3G {α:Type} (p:α→Bool) (l:List α) (a:α):J4 p (l++[a])=if p a=true then J4 p l else l++[a]:=by
  unfold J4
  rw [List.reverse_append,List.reverse_singleton,List.singleton_append,List.dropWhile_cons]
  split
  · rfl
  · simp
theorem C8O {α β:Type} (p:β→Bool) (f:α→β) (l:List α):J4 p (l.map f)=(J4 (fun x=>p (f x)) l).map f:=by
  unfold J4
  rw [←List.map_reverse,List.dropWhile_map,List.map_reverse];rfl
theorem B2E {α:Type} {p:α→Bool} {l:List α} {x:α} (h:x∈J4 p l):x∈l:=by
  unfold J4 at h
  exact List.mem_reverse.1 ((List.dropWhile_sublist p).subset (List.mem_reverse.1 h))
theorem C6P {α:Type} (p:α→Bool) (l:List α):(J4 p l).length≤l.length:=by
  unfold J4
  rw [List.length_reverse]
  have:=(List.dropWhile_sublist p (l:=l.reverse)).length_le
  rwa [List.length_reverse]at this
theorem back {α:Type} {d:α} {l:List α} (p:α→Bool) (hl:l.length<1099511627776) (g:Nat→Int→Option (List α)) (h0:Ev (fun k=>g (k+1) 0) [])
    (hC:∀pre a post,l=pre++a::post→C4 d l (pre.length:Int)=a→wrap64 (((pre.length+1:Nat):Int)-1)=(pre.length:Int)→pre.length+1≤l.length→Ev (fun k=>g k (pre.length:Int)) (J4 p pre)→
      Ev (fun k=>g (k+1) ((pre.length+1:Nat):Int)) (if p a=true then J4 p pre else pre++[a])):
    ∀(n:Nat) (pre post:List α),pre.length=n→l=pre++post→Ev (fun k=>g k (n:Int)) (J4 p pre)
  | 0,pre,post,hn,hp=>by
    rw [List.length_eq_zero_iff.1 hn]
    exact Ev.step (f:=fun k=>g (k+1) 0) (fun k=>rfl) h0
  | n+1,pre,post,hn,hp=>by
    have hne:pre≠[]:=fun h=>by rw [h]at hn;cases hn
    have e:=List.dropLast_concat_getLast hne
    have e1:pre.dropLast.length=n:=by rw [List.length_dropLast,hn];rfl
    have hp2:l=pre.dropLast++pre.getLast hne::post:=by
      conv=>lhs;rw [hp,←e]
      rw [List.append_assoc];rfl
    have hle:n+1≤l.length:=by rw [hp,List.length_append];omega
    have h:=hC pre.dropLast (pre.getLast hne) post hp2 (by rw [hp2];exact B8k _ _ _) (by rw [e1,J5 (by omega) (by omega)];omega) (by omega) (by
      have:=back p hl g h0 hC n pre.dropLast (pre.getLast hne::post) e1 hp2
      rwa [←e1]at this)
    rw [e1]at h
    refine Ev.step (f:=fun k=>g (k+1) ((n+1:Nat):Int)) (fun k=>rfl) ?_
    rw [←B3G,e]at h
    exact h
theorem B9X {α:Type} {d:α} {l:List α} (p:α→Bool) (hl:l.length<1099511627776) (g:Nat→Int→Option (List α)) (h0:Ev (fun k=>g (k+1) 0) [])
    (hC:∀pre a post,l=pre++a::post→C4 d l (pre.length:Int)=a→wrap64 (((pre.length+1:Nat):Int)-1)=(pre.length:Int)→pre.length+1≤l.length→Ev (fun k=>g k (pre.length:Int)) (J4 p pre)→
      Ev (fun k=>g (k+1) ((pre.length+1:Nat):Int)) (if p a=true then J4 p pre else pre++[a])):
    Ev (fun k=>g k (l.length:Int)) (J4 p l):=back p hl g h0 hC l.length l [] rfl (by rw [List.append_nil])
theorem C0h {α:Type} {pre post:List α} {a:α}:slice_ (pre++a::post) 0 ((pre.length+1:Nat):Int)=pre++[a]:=by
  have e:pre++a::post=(pre++[a])++post:=by rw [List.append_assoc];rfl
  show(List.take _ _).drop 0=_
  rw [List.drop_zero,e,Int.toNat_natCast,List.take_left' (by rw [List.length_append];rfl)]
theorem B4K {f:FP} (hl:f.length<1099511627776):Ev (fun k=>D9 k f) (J4 zq f):=by
  show Ev (fun k=>B92 (z7 k) _) _
  unfold B92
  refine B9X (d:=d0) zq hl (fun k i=>z7 k f i) ?_ ?_
  · show Ev (fun k=>A7U (z7 k) (I5 k) _ _) _
    unfold A7U
    exact C8 (by decide) (C1 (by decide) (C1 (by decide) (C1 (by decide) (C1 (by omega) (Ev.now [])))))
  · intro pre a post hp hr hw hle ih
    show Ev (fun k=>A7U (z7 k) (I5 k) _ _) _
    unfold A7U
    rw [hw,hr]
    refine C1 (by omega) (C1 (by omega) (C1 (by omega) (Ev.bind (B7l a) (A5U (fun _=>ih) fun _=>?_))))
    refine C1 (by decide) (C1 (by omega) (C1 (Int.le_refl _) (C1 (by omega) ?_)))
    rw [hp,C0h];exact Ev.now _
theorem F1u {f:List FP} (hl:f.length<1099511627776):Ev (fun k=>E7 k f) (J4 List.isEmpty f):=by
  show Ev (fun k=>B2x (A0N k) _) _
  unfold B2x
  refine B9X (d:=([]:FP)) List.isEmpty hl (fun k i=>A0N k f i) ?_ ?_
  · show Ev (fun k=>A6v (A0N k) _ _) _
    unfold A6v
    exact C8 (by decide) (C1 (by decide) (C1 (by decide) (C1 (by decide) (C1 (by omega) (Ev.now [])))))
  · intro pre a post hp hr hw hle ih
    show Ev (fun k=>A6v (A0N k) _ _) _
    unfold A6v
    rw [hw,hr]
    refine C1 (by omega) (C1 (by omega) (C1 (by omega) (G0 (d:=a.isEmpty=true) (by cases a<;>simp;omega) (fun _=>ih) fun _=>?_)))
    refine C1 (by decide) (C1 (by omega) (C1 (Int.le_refl _) (C1 (by omega) ?_)))
    rw [hp,C0h];exact Ev.now _
theorem F6O {f:List FP} (hl:f.length<1000000):Ev (fun k=>N4 k f) (J4 List.isEmpty f):=by
  show Ev (fun k=>B3U (A0J k) _) _
  unfold B3U
  refine B9X (d:=([]:FP)) List.isEmpty (by omega) (fun k i=>A0J k f i) ?_ ?_
  · show Ev (fun k=>A8H (A0J k) _ _) _
    unfold A8H
    exact C8 (by decide) (C1 (by decide) (C1 (by decide) (C1 (by omega) (C1 (Int.le_refl _) (C1 (by show(0+0)*24≤_;decide) (Ev.now []))))))
  · intro pre a post hp hr hw hle ih
    show Ev (fun k=>A8H (A0J k) _ _) _
    unfold A8H
    rw [hw,hr]
    refine C1 (by omega) (C1 (by omega) (C1 (by omega) (G0 (d:=a.isEmpty=true) (by cases a<;>simp;omega) (fun _=>ih) fun _=>?_)))
    rw [hp,C0h]
    refine C1 (by decide) (C1 (by omega) (C1 (by rw [←hp];omega) (C1 (Int.le_refl _) (C1 ?_ (Ev.now _)))))
    rw [List.length_append,List.length_singleton,List.length_nil];omega
def zr (a:Rat):Bool:=decide (a=0)
theorem D7h:(fun x=>zq (fr x))=zr:=by funext a;exact B3J a
theorem F5f (a:Rat):Ev (fun k=>Q5 k (fr a)) (sgn a.num):=by
  have f1:=D3p a.num
  refine⟨0,fun k _=>?_⟩
  show Q5 _ _=_
  unfold Q5 B4S
  simp only [fr,A5V,Ya,Yb,Yc,Yd,Ye,Yf,Yg,Yh,Yi,Yj,Yk,Int.reduceEq,reduceCtorEq,Yl,Ym,Yn,Yo,Yp,Yq,Yr,Ys,Yt,Yu,Yv,Yw,Yx,Yy,Yz,YA,YB,YC,f1]
theorem F1b (a:Rat):sgn a.num=0↔zr a=true:=by
  unfold sgn zr
  rw [decide_eq_true_eq,←Rat.num_eq_zero]
  constructor
  · intro h
    by_cases c:a.num<0
    · rw [if_pos c]at h;cases h
    · rw [if_neg c]at h
      by_cases c2:a.num=0
      · exact c2
      · rw [if_neg c2]at h;cases h
  · intro h;rw [h];rfl
theorem B3N {g:List Rat} (hl:g.length<1000000):Ev (fun k=>F1 k (g.map fr)) ((J4 zr g).map fr):=by
  rw [←D7h,←C8O]
  show Ev (fun k=>B48 (A0L k) _) _
  unfold B48
  refine B9X (d:=d0) zq (by rw [List.length_map];omega) (fun k i=>A0L k (g.map fr) i) ?_ ?_
  · show Ev (fun k=>A9X (A0L k) (Q5 k) _ _) _
    unfold A9X
    exact C8 (by decide) (C1 (by decide) (C1 (by decide) (C1 (by omega) (C1 (Int.le_refl _) (C1 (by show(0+0)*40≤_;decide) (Ev.now []))))))
  · intro pre a post hp hr hw hle ih
    show Ev (fun k=>A9X (A0L k) (Q5 k) _ _) _
    unfold A9X
    rw [hw,hr]
    obtain⟨b,hb,rfl⟩:=List.mem_map.1 (show a∈g.map fr by rw [hp];simp)
    refine C1 (by omega) (C1 (by omega) (C1 (by omega) (Ev.bind (F5f b) (G0 (d:=zq (fr b)=true) (by rw [B3J];exact F1b b) (fun _=>ih) fun _=>?_))))
    have hle':pre.length+1≤g.length:=by rwa [List.length_map]at hle
    rw [hp,C0h]
    refine C1 (by decide) (C1 (by omega) (C1 (by rw [←hp];omega) (C1 (Int.le_refl _) (C1 ?_ (Ev.now _)))))
    rw [List.length_append,List.length_singleton,List.length_nil];omega
def scl (c:Rat) (g:List Rat):List Rat:=J4 zr (g.map (· *c))
theorem F0T {g:List Rat} {c:Rat} (hl:g.length<1000000) (hg:∀a,a∈g→Sm 10000 a) (hc:Sm 10000 c):Ev (fun k=>A4y k (g.map fr) (fr c)) ((scl c g).map fr):=by
  show Ev (fun k=>B98 (A0Q k) _ _) _
  unfold B98
  rw [List.length_map]
  refine D2u (d:=d0) (e:=fr) (l:=g) (by omega) (fun k i (s:FP)=>A0Q k (g.map fr) (g.length:Int) i (fr c) s) (fun _ _ _=>(scl c g).map fr)
    (fun pre s=>s=(pre.map (· *c)).map fr) ?_ ?_ g [] [] rfl rfl
  · intro s hs
    subst hs
    show Ev (fun k=>A7v (A0Q k) (F1 k) (M0 k) _ _ _ _ _) _
    unfold A7v
    exact C8 (Int.lt_irrefl _) (Ev.bind (B3N (by rw [List.length_map];omega)) (Ev.now _))
  · intro pre a post s hp hi hr hs ih
    subst hs
    show Ev (fun k=>A7v (A0Q k) (F1 k) (M0 k) _ _ _ _ _) _
    unfold A7v
    refine P4 hi (by omega) (by rw [List.length_map];exact hi) ?_
    rw [hr]
    refine Ev.bind (C5k (hg a (by rw [hp];simp)) hc) (C1 (by rw [List.length_map,List.length_map];omega) (ih _ ?_))
    rw [List.map_append,List.map_append];rfl
def A1m (x:FV):Bool:=if 1024<x.1.2.size then true else decide (1024<x.2.size)
theorem E8j (x:FV):Ev (fun k=>A2X k x) (A1m x):=by
  show Ev (fun k=>B5e _) _
  unfold B5e
  have e:decide ((x.2.size:Int)>1024)=decide (1024<x.2.size):=by rw [Bool.eq_iff_iff,decide_eq_true_eq,decide_eq_true_eq];omega
  rw [e]
  exact G0 (by omega) (fun _=>Ev.now _) fun _=>Ev.now _
theorem E8f {f:FP} (hl:f.length<1099511627776):Ev (fun k=>A1L k f) (f.any A1m):=by
  have h:Ev (fun k=>A6I k f) (ix A1m 0 f):=by
    show Ev (fun k=>B5a (A0s k) _) _
    unfold B5a
    refine Y1 (d:=d0) hl (fun k i (_:Unit)=>A0s k f (f.length:Int) i) (fun n _ l=>ix A1m n l) (fun _ _=>True) () trivial ?_ ?_
    · intro _ _
      show Ev (fun k=>A9W (A0s k) (A2X k) _ _ _) _
      unfold A9W
      exact C8 (Int.lt_irrefl _) (Ev.now _)
    · intro pre a post _ hp hi hr _ ih
      show Ev (fun k=>A9W (A0s k) (A2X k) _ _ _) _
      unfold A9W
      refine P4 hi (by omega) hi ?_
      rw [hr]
      exact Ev.bind (E8j a) (A5U (fun _=>Ev.now _) fun _=>ih () trivial)
  rw [←C0n _ _ 0]
  exact Ev.bind h (Ev.now _)
theorem F0c {f:List FP} (hl:f.length<1099511627776) (hs:∀a,a∈f→a.length<1099511627776):Ev (fun k=>K4 k f) (if 65<f.length then true else f.any (fun a=>a.any A1m)):=by
  have h:Ev (fun k=>A5c k f) (ix (fun a=>a.any A1m) 0 f):=by
    show Ev (fun k=>B5l (A0W k) _) _
    unfold B5l
    refine Y1 (d:=([]:FP)) hl (fun k i (_:Unit)=>A0W k f (f.length:Int) i) (fun n _ l=>ix (fun a=>a.any A1m) n l) (fun _ _=>True) () trivial ?_ ?_
    · intro _ _
      show Ev (fun k=>A7e (A0W k) (A1Y k) _ _ _) _
      unfold A7e
      exact C8 (Int.lt_irrefl _) (Ev.now _)
    · intro pre a post _ hp hi hr _ ih
      show Ev (fun k=>A7e (A0W k) (A1Y k) _ _ _) _
      unfold A7e
      refine P4 hi (by omega) hi ?_
      rw [hr]
      have h1:Ev (fun k=>A1Y k a) (a.any A1m):=Ev.bind (E8f (hs a (by rw [hp];simp))) (Ev.now _)
      exact Ev.bind h1 (A5U (fun _=>Ev.now _) fun _=>ih () trivial)
  show Ev (fun k=>B5M (A4g k) _) _
  unfold B5M
  refine G0 (by omega) (fun _=>Ev.now _) fun _=>?_
  rw [←C0n _ _ 0]
  have h2:Ev (fun k=>A4g k f) (decide (ix (fun a=>a.any A1m) 0 f≥0)):=Ev.bind (Ev.bind h (Ev.now _)) (Ev.now _)
  exact Ev.bind h2 (Ev.now _)
theorem E2U {f:FP} (hl:f.length<1099511627776):Ev (fun k=>A2O k f) (N7 U5 0 f):=by
  show Ev (fun k=>B3K (A0q k) _) _
  unfold B3K
  refine Y1 (d:=d0) hl (fun k i (_:Unit)=>A0q k f (f.length:Int) i) (fun _ _=>N7 U5 0) (fun _ _=>True) () trivial ?_ ?_
  · intro _ _
    show Ev (fun k=>A7Z (A0q k) (L7 k) _ _ _) _
    unfold A7Z
    exact C8 (Int.lt_irrefl _) (Ev.now _)
  · intro pre a post _ hp hi hr _ ih
    show Ev (fun k=>A7Z (A0q k) (L7 k) _ _ _) _
    unfold A7Z
    refine P4 hi (by omega) hi ?_
    rw [hr]
    exact Ev.bind (D2X a) (G0 Iff.rfl (fun _=>Ev.now _) fun _=>ih () trivial)
theorem F3w {f:List FP} (hs:∀a,a∈f→a.length<1099511627776):Ev (fun k=>Q7 k f) (if 65<f.length then 4 else N7 (N7 U5 0) 0 f):=by
  show Ev (fun k=>B44 (A0Y k) _) _
  unfold B44
  refine G0 (by omega) (fun _=>Ev.now _) fun c=>Y1 (d:=([]:FP)) (by omega) (fun k i (_:Unit)=>A0Y k f (f.length:Int) i) (fun _ _=>N7 (N7 U5 0) 0) (fun _ _=>True) () trivial ?_ ?_
  · intro _ _
    show Ev (fun k=>A7g (A0Y k) (A2O k) _ _ _) _
    unfold A7g
    exact C8 (Int.lt_irrefl _) (Ev.now _)
  · intro pre a post _ hp hi hr _ ih
    show Ev (fun k=>A7g (A0Y k) (A2O k) _ _ _) _
    unfold A7g
    refine P4 hi (by omega) hi ?_
    rw [hr]
    exact Ev.bind (E2U (hs a (by rw [hp];simp))) (G0 Iff.rfl (fun _=>Ev.now _) fun _=>ih () trivial)
theorem C1i {α:Type} {ck:α→Int}:∀{l:List α},(∀x,x∈l→ck x=0)→N7 ck 0 l=0
  | [],_=>rfl
  | a::l,h=>by
    unfold N7
    rw [if_neg (by rw [h a List.mem_cons_self];decide)]
    exact C1i fun x hx=>h x (List.mem_cons_of_mem _ hx)
def A3C (w:List FP):Prop:=w.length≤65∧∀a,a∈w→a.length<1099511627776∧∀x,x∈a→∃q:Rat,x=fr q∧Sm 1024 q
theorem A3C.large {w:List FP} (h:A3C w):Ev (fun k=>K4 k w) false:=by
  have h1:=F0c (f:=w) (by have:=h.1;omega) fun a ha=>(h.2 a ha).1
  have e:w.any (fun a=>a.any A1m)=false:=by
    rw [List.any_eq_false]
    intro a ha
    rw [Bool.not_eq_true,List.any_eq_false]
    intro x hx
    obtain⟨q,rfl,hq⟩:=(h.2 a ha).2 x hx
    unfold A1m
    rw [if_neg (show¬1024<(fr q).1.2.size from Nat.not_lt.2 hq.1),decide_eq_true_eq]
    exact Nat.not_lt.2 hq.2
  rw [if_neg (by have:=h.1;omega),e]at h1
  exact h1
theorem A3C.Rlarge {w:List FP} (h:A3C w):Ev (fun k=>Q7 k w) 0:=by
  have h1:=F3w (f:=w) fun a ha=>(h.2 a ha).1
  rw [if_neg (by have:=h.1;omega),C1i fun a ha=>C1i fun x hx=>?_]at h1
  · exact h1
  · obtain⟨q,rfl,hq⟩:=(h.2 a ha).2 x hx
    exact F8K hq
theorem D2F (a:ByteArray):E4 a a=true:=by rw [E8];exact beq_self_eq_true _
theorem E5E {f:FP} (hl:f.length<1099511627776):Ev (fun k=>n6 k f f) true:=by
  show Ev (fun k=>B18 (A0a k) _ _) _
  unfold B18
  refine C8 (fun h=>h rfl) (Y1 (d:=d0) hl (fun k i (_:Unit)=>A0a k f f (f.length:Int) i) (fun _ _ _=>true) (fun _ _=>True) () trivial ?_ ?_)
  · intro _ _
    show Ev (fun k=>A8u (A0a k) _ _ _ _) _
    unfold A8u
    exact C8 (Int.lt_irrefl _) (Ev.now _)
  · intro pre a post _ hp hi hr _ ih
    show Ev (fun k=>A8u (A0a k) _ _ _ _) _
    unfold A8u
    refine P4 hi (by omega) hi (M6 (by omega) hi ?_)
    rw [hr]
    exact A2m (by rw [beq_self_eq_true,D2F,D2F];rfl) (ih () trivial)
theorem E9d {f:List FP} (hl:f.length<1099511627776) (hs:∀a,a∈f→a.length<1099511627776):Ev (fun k=>N5 k f f) true:=by
  show Ev (fun k=>B29 (A0p k) _ _) _
  unfold B29
  refine C8 (fun h=>h rfl) (Y1 (d:=([]:FP)) hl (fun k i (_:Unit)=>A0p k f f (f.length:Int) i) (fun _ _ _=>true) (fun _ _=>True) () trivial ?_ ?_)
  · intro _ _
    show Ev (fun k=>A7B (A0p k) (n6 k) _ _ _ _) _
    unfold A7B
    exact C8 (Int.lt_irrefl _) (Ev.now _)
  · intro pre a post _ hp hi hr _ ih
    show Ev (fun k=>A7B (A0p k) (n6 k) _ _ _ _) _
    unfold A7B
    refine P4 hi (by omega) hi (M6 (by omega) hi ?_)
    rw [hr]
    exact Ev.bind (E5E (hs a (by rw [hp];simp))) (A2m rfl (ih () trivial))
theorem E1G {α:Type} {p:α→Bool} {l:List α} (h:∀x,l.getLast?=some x→p x=false):J4 p l=l:=by
  by_cases hn:l=[]
  · subst hn;rfl
  · have e:=List.dropLast_concat_getLast hn
    have:=h _ (List.getLast?_eq_some_getLast hn)
    conv=>lhs;rw [←e]
    rw [B3G,this,if_neg (by decide),e]
def el (a:Rat):FP:=(J4 zr [a]).map fr
theorem wi {i:Nat} (h:i<1099511627776):wrap64 ((i:Int)+1)=((i+1:Nat):Int):=by rw [J5 (by omega) (by omega)];omega
theorem V5 {S R:Type} {n:Nat} (hn:n<1099511627776) (g:Nat→Int→S→Option R) (st:Nat→S) {r:R} (hT:Ev (fun k=>g (k+1) (n:Int) (st n)) r)
    (hC:∀i,i<n→Ev (fun k=>g k ((i+1:Nat):Int) (st (i+1))) r→Ev (fun k=>g (k+1) (i:Int) (st i)) r):Ev (fun k=>g k 0 (st 0)) r:=by
  have key:∀d i,i+d=n→Ev (fun k=>g k (i:Int) (st i)) r:=by
    intro d
    induction d with
    |zero=>intro i hi;rw [Nat.add_zero]at hi;subst hi;exact Ev.step (f:=fun k=>g (k+1) (i:Int) (st i)) (fun k=>rfl) hT
    |succ d ih=>intro i hi;exact Ev.step (f:=fun k=>g (k+1) (i:Int) (st i)) (fun k=>rfl) (hC i (by omega) (ih (i+1) (by omega)))
  exact key n 0 (by omega)
def tb {α:Type} (n:Nat) (h:Nat→α):List α:=(List.range n).map h
section
variable {α β:Type} {n i:Nat} {h h':Nat→α} {d:α}
theorem G8:(tb n h).length=n:=by unfold tb;rw [List.length_map,List.length_range]
theorem A5l (hi:i<n):(tb n h)[i]?=some (h i):=by unfold tb;rw [List.getElem?_map,List.getElem?_range hi];rfl
theorem B3M (hi:i<n):C4 d (tb n h) (i:Int)=h i:=by
  unfold C4;rw [Int.toNat_natCast,List.getD_eq_getElem?_getD,A5l hi];rfl
theorem b6 (e:∀j,j<n→h j=h' j):tb n h=tb n h':=List.map_congr_left fun j hj=>e j (List.mem_range.1 hj)
theorem A3l {a:α} (hi:i<n) (e:∀j,j<n→h' j=if j=i then a else h j):(tb n h).set (i:Int).toNat a=tb n h':=by
  rw [Int.toNat_natCast]
  apply List.ext_getElem?
  intro j
  rcases Nat.lt_or_ge j n with hj|hj
  · rw [A5l hj,e j hj,List.getElem?_set]
    split
    · rename_i hij;subst hij;rw [if_pos (by rw [G8];exact hi),if_pos rfl]
    · rename_i hij;rw [A5l hj,if_neg (fun x=>hij x.symm)]
  · rw [List.getElem?_eq_none (by rw [List.length_set,G8];exact hj),List.getElem?_eq_none (by rw [G8];exact hj)]
theorem A9L:List.replicate n d=tb n fun _=>d:=by
  apply List.ext_getElem?
  intro j
  rcases Nat.lt_or_ge j n with hj|hj
  · rw [A5l hj,List.getElem?_replicate,if_pos hj]
  · rw [List.getElem?_eq_none (by rw [List.length_replicate];exact hj),List.getElem?_eq_none (by rw [G8];exact hj)]
theorem A6f:tb n h++[h n]=tb (n+1) h:=by unfold tb;rw [List.range_succ,List.map_append];rfl
theorem A7M (f:α→β):(tb n h).map f=tb n fun j=>f (h j):=by unfold tb;rw [List.map_map];rfl
theorem B3v {a:α} (ha:a∈tb n h):∃j,j<n∧a=h j:=by
  obtain⟨j,hj,rfl⟩:=List.mem_map.1 ha
  exact⟨j,List.mem_range.1 hj,rfl⟩
end
theorem A2z (m n:Nat):mx (m:Int) (n:Int)=((max m n:Nat):Int):=by
  show(if(m:Int)<n then(n:Int)else m)=_
  split<;>omega
def co (l:List Rat) (j:Nat):Rat:=l.getD j 0
def pl (n:Nat) (c:Nat→Rat):List Rat:=J4 zr (tb n c)
def Tr (l:List Rat):Prop:=∀a,l.getLast?=some a→a≠0
theorem Y6 {l:List Rat} {j:Nat} (h:l.length≤j):co l j=0:=by unfold co;rw [List.getD_eq_getElem?_getD,List.getElem?_eq_none h];rfl
theorem D8m {l:List Rat} {j:Nat} (h:j<l.length):co l j∈l:=by unfold co;rw [List.getD_eq_getElem?_getD,List.getElem?_eq_getElem h];exact List.getElem_mem h
theorem F1A {n j:Nat} {c:Nat→Rat}:co (tb n c) j=if j<n then c j else 0:=by
  split
  · rename_i h;unfold co;rw [List.getD_eq_getElem?_getD,A5l h];rfl
  · rename_i h;exact Y6 (by rw [G8];omega)
theorem D2o (l:List Rat) (j:Nat):co (J4 zr l) j=co l j:=by
  have key:∀r:List Rat,co (J4 zr r.reverse) j=co r.reverse j:=by
    intro r
    induction r with
    |nil=>rfl
    | cons a r ih=>
      rw [List.reverse_cons,B3G]
      split
      · rename_i h
        rw [ih]
        unfold co
        rw [List.getD_eq_getElem?_getD,List.getD_eq_getElem?_getD]
        rcases Nat.lt_or_ge j r.reverse.length with h1|h1
        · rw [List.getElem?_append_left h1]
        · rw [List.getElem?_append_right h1,List.getElem?_eq_none h1]
          rcases Nat.eq_zero_or_pos (j-r.reverse.length)with h2|h2
          · rw [h2];exact(of_decide_eq_true h).symm
          · rw [List.getElem?_eq_none (by rw [List.length_singleton];exact h2)]
      · rfl
  have:=key l.reverse
  rwa [List.reverse_reverse]at this
theorem E7I (l:List Rat):Tr (J4 zr l):=by
  have key:∀r:List Rat,Tr (J4 zr r.reverse):=by
    intro r
    induction r with
    |nil=>intro a h;cases h
    | cons a r ih=>
      rw [List.reverse_cons,B3G]
      split
      · exact ih
      · rename_i h
        intro b hb
        rw [List.getLast?_concat]at hb
        cases hb
        exact of_decide_eq_false (Bool.eq_false_iff.2 h)
  have:=key l.reverse
  rwa [List.reverse_reverse]at this
theorem B3W {l:List Rat} (h:Tr l) (hl:0<l.length):co l (l.length-1)≠0:=by
  apply h
  unfold co
  rw [List.getD_eq_getElem?_getD,List.getLast?_eq_getElem?,List.getElem?_eq_getElem (by omega)];rfl
theorem B4Z {l m:List Rat} (hl:Tr l) (hm:Tr m) (h:∀j,co l j=co m j):l=m:=by
  have le:∀{l m:List Rat},Tr l→(∀j,co l j=co m j)→l.length≤m.length:=fun {l m} hl h=>by
    rcases Nat.lt_or_ge m.length l.length with h1|h1
    · exact absurd ((h _).trans (Y6 (by omega))) (B3W hl (by omega))
    · exact h1
  have e:l.length=m.length:=Nat.le_antisymm (le hl h) (le hm fun j=>(h j).symm)
  apply List.ext_getElem e
  intro j h1 h2
  have:=h j
  unfold co at this
  rwa [List.getD_eq_getElem?_getD,List.getD_eq_getElem?_getD,List.getElem?_eq_getElem h1,List.getElem?_eq_getElem h2]at this
theorem A5K {n j:Nat} {c:Nat→Rat}:co (pl n c) j=if j<n then c j else 0:=(D2o _ _).trans F1A
theorem A0z {n:Nat} {c:Nat→Rat}:Tr (pl n c):=E7I _
theorem A6M (n:Nat) (c:Nat→Rat):(pl n c).length≤n:=by have:=C6P zr (tb n c);rwa [G8]at this
theorem E4f {l:List Rat} {n:Nat} (h:Tr l) (hc:∀j,n≤j→co l j=0):l.length≤n:=by
  rcases Nat.lt_or_ge n l.length with h1|h1
  · exact absurd (hc _ (by omega)) (B3W h (by omega))
  · exact h1
theorem Tr.trim {l:List Rat} (h:Tr l):J4 zr l=l:=E1G fun x hx=>decide_eq_false (h x hx)
theorem E8X {l:List Rat} {n:Nat} {c:Nat→Rat} (h:Tr l) (hc:∀j,co l j=if j<n then c j else 0):l=pl n c:=B4Z h A0z fun j=>(hc j).trans A5K.symm
theorem A4d {l:List Rat} {i:Nat} (h:i<l.length):C4 d0 (l.map fr) (i:Int)=fr (co l i):=by
  unfold C4 co
  rw [Int.toNat_natCast,List.getD_eq_getElem?_getD,List.getElem?_map,List.getD_eq_getElem?_getD,List.getElem?_eq_getElem h];rfl
theorem B4P {n:Nat} {c:Nat→Rat}:J4 zq (tb n fun j=>fr (c j))=(pl n c).map fr:=by
  rw [←A7M fr,C8O,D7h];rfl
def Sl (f:List Rat):Prop:=f.length<1000000∧∀a,a∈f→Sm 10000 a
theorem Sl.co {f:List Rat} (h:Sl f) (j:Nat):Sm 10000 (co f j):=by
  rcases Nat.lt_or_ge j f.length with h1|h1
  · exact h.2 _ (D8m h1)
  · rw [Y6 h1];exact D3k.mono (by decide)
theorem Sl.nil:Sl []:=⟨by decide,fun a h=>by cases h⟩
theorem Sl.pl {n:Nat} {c:Nat→Rat} (hn:n<1000000) (h:∀j,j<n→Sm 10000 (c j)):Sl (pl n c):=
  ⟨Nat.lt_of_le_of_lt (A6M n c) hn,fun a ha=>by obtain⟨j,hj,rfl⟩:=B3v (B2E ha);exact h j hj⟩
theorem B6w {f:List Rat} {i:Nat} (hi:i<1099511627776):Ev (fun k=>Y3 k (f.map fr) (i:Int)) (fr (co f i)):=by
  show Ev (fun k=>B3t (E2 k) _ _) _
  unfold B3t
  rw [List.length_map]
  refine C8 (by omega) ?_
  rcases Nat.lt_or_ge i f.length with h|h
  · refine C8 (by omega) (M6 (by omega) (by omega) ?_)
    rw [A4d h];exact Ev.now _
  · refine C1 (by omega) (Ev.bind (B8R (i:=0) (by decide) (by decide)) ?_)
    rw [Y6 h];exact Ev.now _
theorem D4v {f:List Rat} {i:Nat} (hi:i<1099511627776):Ev (fun k=>A2w k (f.map fr) (i:Int)) (fr (co f i)):=by
  show Ev (fun k=>B4l (E6 k) _ _) _
  unfold B4l
  rw [List.length_map]
  rcases Nat.lt_or_ge i f.length with h|h
  · refine C1 (by omega) (M6 (by omega) (by omega) ?_)
    rw [A4d h];exact Ev.now _
  · refine C8 (by omega) (Ev.bind (B3V (i:=0) (by decide) (by decide)) ?_)
    rw [Y6 h];exact Ev.now _
def W7 (f g:List Rat):List Rat:=pl (max f.length g.length) fun j=>co f j+co g j
def t5 (f g:List Rat):List Rat:=pl (max f.length g.length) fun j=>co f j-co g j
section
variable {f g:List Rat} (hf:Sl f) (hg:Sl g)
include hf hg
theorem D4u:Ev (fun k=>J3 k (f.map fr) (g.map fr)) ((W7 f g).map fr):=by
  have:=hf.1;have:=hg.1
  show Ev (fun k=>B90 (A0v k) _ _) _
  unfold B90
  rw [List.length_map,List.length_map,A2z]
  refine C1 (by omega) (C1 (Int.le_refl _) (C1 (by rw [Int.toNat_natCast];omega) ?_))
  rw [Int.toNat_natCast,List.length_replicate,A9L]
  refine V5 (n:=max f.length g.length) (by omega) (fun k i (s:FP)=>A0v k (f.map fr) (g.map fr) ((max f.length g.length:Nat):Int) i s)
    (fun i=>tb (max f.length g.length) fun j=>if j<i then fr (co f j+co g j)else d0) ?_ fun i hi ih=>?_
  · show Ev (fun k=>A9I (A0v k) (D9 k) (J9 k) (Y3 k) _ _ _ _ _) _
    unfold A9I
    refine C8 (by omega) ?_
    rw [b6 (h':=fun j=>fr (co f j+co g j)) fun j hj=>if_pos hj]
    have h:=B4K (f:=tb (max f.length g.length) fun j=>fr (co f j+co g j)) (by rw [G8];omega)
    rw [B4P]at h
    exact Ev.bind h (Ev.now _)
  · show Ev (fun k=>A9I (A0v k) (D9 k) (J9 k) (Y3 k) _ _ _ _ _) _
    unfold A9I
    rw [wi (by omega),G8]
    refine C1 (by omega) (Ev.bind (B6w (by omega)) (Ev.bind (B6w (by omega)) (Ev.bind (C9F (hf.co i) (hg.co i)) (M6 (by omega) (by omega) ?_))))
    rw [A3l (h':=fun j=>if j<i+1 then fr (co f j+co g j)else d0) hi fun j hj=>?_]
    · exact ih
    · by_cases e:j=i
      · subst e;rw [if_pos (by omega),if_pos rfl]
      · rw [if_neg e];by_cases e2:j<i
        · rw [if_pos e2,if_pos (by omega)]
        · rw [if_neg e2,if_neg (by omega)]
theorem F8I:Ev (fun k=>S0 k (f.map fr) (g.map fr)) ((t5 f g).map fr):=by
  have:=hf.1;have:=hg.1
  show Ev (fun k=>B5V (z6 k) _ _) _
  unfold B5V
  rw [List.length_map,List.length_map,A2z]
  refine C1 (by omega) (C1 (Int.le_refl _) (C1 (by rw [Int.toNat_natCast];omega) ?_))
  rw [Int.toNat_natCast,List.length_replicate,A9L]
  refine V5 (n:=max f.length g.length) (by omega) (fun k i (s:FP)=>z6 k (f.map fr) (g.map fr) ((max f.length g.length:Nat):Int) i s)
    (fun i=>tb (max f.length g.length) fun j=>if j<i then fr (co f j-co g j)else d0) ?_ fun i hi ih=>?_
  · show Ev (fun k=>A8Y (z6 k) (L5 k) (D9 k) (Y3 k) _ _ _ _ _) _
    unfold A8Y
    refine C8 (by omega) ?_
    rw [b6 (h':=fun j=>fr (co f j-co g j)) fun j hj=>if_pos hj]
    have h:=B4K (f:=tb (max f.length g.length) fun j=>fr (co f j-co g j)) (by rw [G8];omega)
    rw [B4P]at h
    exact Ev.bind h (Ev.now _)
  · show Ev (fun k=>A8Y (z6 k) (L5 k) (D9 k) (Y3 k) _ _ _ _ _) _
    unfold A8Y
    rw [wi (by omega),G8]
    refine C1 (by omega) (Ev.bind (B6w (by omega)) (Ev.bind (B6w (by omega)) (Ev.bind (D6R (hf.co i) (hg.co i)) (M6 (by omega) (by omega) ?_))))
    rw [A3l (h':=fun j=>if j<i+1 then fr (co f j-co g j)else d0) hi fun j hj=>?_]
    · exact ih
    · by_cases e:j=i
      · subst e;rw [if_pos (by omega),if_pos rfl]
      · rw [if_neg e];by_cases e2:j<i
        · rw [if_pos e2,if_pos (by omega)]
        · rw [if_neg e2,if_neg (by omega)]
theorem C0v:Ev (fun k=>K9 k (f.map fr) (g.map fr)) ((W7 f g).map fr):=by
  have:=hf.1;have:=hg.1
  show Ev (fun k=>B20 (A0A k) _ _) _
  unfold B20
  refine V5 (n:=max f.length g.length) (by omega) (fun k i (s:FP)=>A0A k (f.map fr) (g.map fr) i s)
    (fun i=>tb i fun j=>fr (co f j+co g j)) ?_ fun i hi ih=>?_
  · show Ev (fun k=>A7h (A0A k) (F1 k) (O6 k) (A2w k) _ _ _ _) _
    unfold A7h
    rw [List.length_map,List.length_map,A2z,←A7M fr]
    exact C8 (by omega) (Ev.bind (B3N (by rw [G8];omega)) (Ev.now _))
  · show Ev (fun k=>A7h (A0A k) (F1 k) (O6 k) (A2w k) _ _ _ _) _
    unfold A7h
    rw [List.length_map,List.length_map,A2z,wi (by omega),G8]
    refine C1 (by omega) (Ev.bind (D4v (by omega)) (Ev.bind (D4v (by omega)) (Ev.bind (D3g (hf.co i) (hg.co i)) (C1 (by omega) ?_))))
    rw [A6f (h:=fun j=>fr (co f j+co g j))]
    exact ih
end
theorem C9X (f g:List Rat) (j:Nat):co (W7 f g) j=co f j+co g j:=by
  unfold W7
  rw [A5K]
  split
  · rfl
  · rw [Y6 (show f.length≤j by omega),Y6 (show g.length≤j by omega),Rat.add_zero]
theorem C8A (f g:List Rat) (j:Nat):co (t5 f g) j=co f j-co g j:=by
  unfold t5
  rw [A5K]
  split
  · rfl
  · rw [Y6 (show f.length≤j by omega),Y6 (show g.length≤j by omega)];decide +kernel
theorem F1W (c:Rat) (g:List Rat) (j:Nat):co (scl c g) j=co g j*c:=by
  unfold scl
  rw [D2o]
  unfold co
  rw [List.getD_eq_getElem?_getD,List.getD_eq_getElem?_getD,List.getElem?_map]
  cases g[j]? with
  |none=>exact(Rat.zero_mul c).symm
  |some a=>rfl
theorem E6u (c:Rat) (g:List Rat):(scl c g).length≤g.length:=by have:=C6P zr (g.map (· *c));rwa [List.length_map]at this
theorem E3v (f g:List Rat):W7 f (scl (-1) g)=t5 f g:=by
  refine B4Z A0z A0z fun j=>?_
  rw [C9X,C8A,F1W,Rat.mul_neg,Rat.mul_one,Rat.sub_eq_add_neg]
theorem D7v:Sm 8 (-1):=⟨by decide +kernel,by decide +kernel⟩
theorem D8G {f g:List Rat} (hf:Sl f) (hg:g.length<1000000∧∀a,a∈g→Sm 9000 a):Ev (fun k=>Y8 k (f.map fr) (g.map fr)) ((t5 f g).map fr):=by
  show Ev (fun k=>B51 (K9 k) (E6 k) (A4y k) _ _) _
  unfold B51
  have h2:Sl (scl (-1) g):=⟨Nat.lt_of_le_of_lt (E6u _ _) hg.1,fun a ha=>by
    obtain⟨b,hb,rfl⟩:=List.mem_map.1 (B2E ha)
    exact((hg.2 b hb).mul D7v).mono (by decide)⟩
  have h1:=F0T (g:=g) (c:= -1) hg.1 (fun a ha=>(hg.2 a ha).mono (by decide)) (D7v.mono (by decide))
  have h3:=C0v hf h2
  rw [E3v]at h3
  exact Ev.bind (B3V (i:= -1) (by decide) (by decide)) (Ev.bind h1 (Ev.bind h3 (Ev.now _)))
def J6 (f g:List Rat) (m:Nat):Nat→Rat
  |0=>0
  |i+1=>if i≤m∧m-i<g.length then J6 f g m i+co f i*co g (m-i)else J6 f g m i
def R5 (f g:List Rat):List Rat:=pl (f.length+g.length-1) fun m=>J6 f g m f.length
theorem D5M (f:List Rat) (m:Nat):∀i,J6 f [] m i=0
  |0=>rfl
  |i+1=>by unfold J6;rw [if_neg (fun h=>Nat.not_lt_zero _ h.2)];exact D5M f m i
theorem D9R {n:Nat} {c:Nat→Rat} (h:∀j,j<n→c j=0):pl n c=[]:=B4Z A0z (fun a h=>by cases h) fun j=>by
  rw [A5K]
  show _=(0:Rat)
  split
  · exact h j (by assumption)
  · rfl
theorem E4e (g:List Rat):R5 [] g=[]:=D9R fun j _=>rfl
theorem E3J (f:List Rat):R5 f []=[]:=D9R fun j _=>D5M f j _
structure Ml (f g:List Rat):Prop where
  lf:f.length<400000
  lg:g.length<400000
  c:∀m i,i≤f.length→Sm 10000 (J6 f g m i)
  sf:∀i,Sm 10000 (co f i)
  sg:∀i,Sm 10000 (co g i)
  p:∀i j,Sm 10000 (co f i*co g j)
section
variable {f g:List Rat} (h:Ml f g)
include h
theorem F4K:Ev (fun k=>L3 k (f.map fr) (g.map fr)) ((R5 f g).map fr):=by
  have lf:=h.lf;have lg:=h.lg
  show Ev (fun k=>B91 (s8 k) _ _) _
  unfold B91
  rw [List.length_map,List.length_map]
  rcases Nat.eq_zero_or_pos f.length with e|e
  · rw [List.length_eq_zero_iff.1 e,E4e];exact C1 rfl (Ev.now _)
  refine C8 (by omega) ?_
  rcases Nat.eq_zero_or_pos g.length with e'|e'
  · rw [List.length_eq_zero_iff.1 e',E3J];exact C1 rfl (Ev.now _)
  refine C8 (by omega) ?_
  have hN:wrap64 (wrap64 ((f.length:Int)+(g.length:Int))-1)=((f.length+g.length-1:Nat):Int):=by rw [J5 (x:=(f.length:Int)+_) (by omega) (by omega),J5 (by omega) (by omega)];omega
  rw [hN]
  refine C1 (by omega) (C1 (Int.le_refl _) (C1 (by rw [Int.toNat_natCast];omega) ?_))
  rw [Int.toNat_natCast,List.length_replicate,A9L]
  generalize hn:f.length+g.length-1=N
  have fin:Ev (fun k=>S8 k (g.map fr) (f.map fr) (f.length:Int) 0 (tb N fun m=>fr (J6 f g m 0))) ((R5 f g).map fr):=by
    refine V5 (n:=f.length) (by omega) (fun k i (s:FP)=>S8 k (g.map fr) (f.map fr) (f.length:Int) i s) (fun i=>tb N fun m=>fr (J6 f g m i)) ?_ fun i hi ih=>?_
    · show Ev (fun k=>A7d (S8 k) (i6 k) (D9 k) (I5 k) _ _ _ _ _) _
      unfold A7d
      have h1:=B4K (f:=tb N fun m=>fr (J6 f g m f.length)) (by rw [G8];omega)
      rw [B4P]at h1
      unfold R5
      rw [hn]
      exact C8 (by omega) (Ev.bind h1 (Ev.now _))
    · show Ev (fun k=>A7d (S8 k) (i6 k) (D9 k) (I5 k) _ _ _ _ _) _
      unfold A7d
      rw [wi (by omega),A4d hi]
      refine P4 (by omega) (by omega) (by rw [List.length_map];omega) (Ev.bind (B7l _) ?_)
      rw [B3J]
      rcases Decidable.em (co f i=0)with z|z
      · refine A1K (decide_eq_true z) ?_
        rw [b6 (h':=fun m=>fr (J6 f g m (i+1))) fun m _=>?_]
        · exact ih
        · show fr (J6 f g m i)=fr (if _ then _ else _)
          split
          · rw [z,Rat.zero_mul,Rat.add_zero]
          · rfl
      · refine A2m (decide_eq_false z) ?_
        rw [List.length_map]
        have:=V5 (n:=g.length) (by omega) (fun k j (s:FP)=>i6 k (g.map fr) (i:Int) (f.map fr) (f.length:Int) (i:Int) (g.map fr) (g.length:Int) j s (fr (co f i)))
          (fun j=>tb N fun m=>fr (if i≤m∧m<i+j then J6 f g m i+co f i*co g (m-i)else J6 f g m i)) (r:=(R5 f g).map fr) ?_ fun j hj jh=>?_
        · rw [b6 (h':=fun m=>fr (J6 f g m i)) fun m _=>by rw [if_neg (by omega)]]at this
          exact this
        · show Ev (fun k=>A9G (S8 k) (i6 k) (F0 k) (J9 k) _ _ _ _ _ _ _ _ _ _) _
          unfold A9G
          rw [wi (i:=i) (by omega),b6 (h':=fun m=>fr (J6 f g m (i+1))) fun m _=>?_]
          · exact C8 (by omega) ih
          · show fr (if _ then _ else _)=fr (if _ then _ else _)
            by_cases c:i≤m∧m<i+g.length
            · rw [if_pos c,if_pos (by omega)]
            · rw [if_neg c,if_neg (by omega)]
        · show Ev (fun k=>A9G (S8 k) (i6 k) (F0 k) (J9 k) _ _ _ _ _ _ _ _ _ _) _
          unfold A9G
          have hij:wrap64 ((i:Int)+(j:Int))=((i+j:Nat):Int):=by rw [J5 (by omega) (by omega)];omega
          rw [hij,wi (by omega),G8,A4d hj,B3M (show i+j<N by omega),if_neg (by omega)]
          refine P4 (by omega) (by omega) (by rw [List.length_map];omega) (M6 (by omega) (by omega) (Ev.bind (C3W (h.sf i) (h.sg j)) (Ev.bind (C9F (h.c _ _ (by omega)) (h.p i j)) (M6 (by omega) (by omega) ?_))))
          rw [A3l (h':=fun m=>fr (if i≤m∧m<i+(j+1)then J6 f g m i+co f i*co g (m-i)else J6 f g m i)) (by omega) fun m hm=>?_]
          · exact jh
          · by_cases c:m=i+j
            · subst c;rw [if_pos rfl,if_pos (by omega),show i+j-i=j by omega]
            · rw [if_neg c]
              by_cases c2:i≤m∧m<i+j
              · rw [if_pos c2,if_pos (by omega)]
              · rw [if_neg c2,if_neg (by omega)]
  refine V5 (n:=N) (by omega) (fun k i (s:FP)=>s8 k (f.map fr) (g.map fr) (N:Int) i s) (fun i=>tb N fun j=>if j<i then fr 0 else d0) ?_ fun i hi ih=>?_
  · show Ev (fun k=>A7s (s8 k) (S8 k) (E2 k) _ _ _ _ _) _
    unfold A7s
    rw [List.length_map,b6 (h':=fun m=>fr (J6 f g m 0)) fun j hj=>by rw [if_pos hj];rfl]
    exact C8 (by omega) fin
  · show Ev (fun k=>A7s (s8 k) (S8 k) (E2 k) _ _ _ _ _) _
    unfold A7s
    rw [wi (by omega),G8]
    refine C1 (by omega) (Ev.bind (B8R (i:=0) (by decide) (by decide)) (M6 (by omega) (by omega) ?_))
    rw [A3l (h':=fun j=>if j<i+1 then fr 0 else d0) hi fun j hj=>?_]
    · exact ih
    · by_cases e:j=i
      · subst e;rw [if_pos (by omega),if_pos rfl];rfl
      · rw [if_neg e];by_cases e2:j<i
        · rw [if_pos e2,if_pos (by omega)]
        · rw [if_neg e2,if_neg (by omega)]
theorem D8h:Ev (fun k=>W8 k (f.map fr) (g.map fr)) ((R5 f g).map fr):=by
  have lf:=h.lf;have lg:=h.lg
  show Ev (fun k=>B45 (t8 k) _ _) _
  unfold B45
  have hN:wrap64 (wrap64 ((f.length:Int)+(g.length:Int))-1)=(f.length:Int)+(g.length:Int)-1:=by rw [J5 (x:=(f.length:Int)+_) (by omega) (by omega),J5 (by omega) (by omega)]
  refine V5 (n:=f.length+g.length-1) (by omega) (fun k i (s:FP)=>t8 k (f.map fr) (g.map fr) i s) (fun i=>tb i fun m=>fr (J6 f g m f.length)) ?_ fun m hm ih=>?_
  · show Ev (fun k=>A8P (s7 k) (F1 k) (E6 k) _ _ _ _) _
    unfold A8P
    rw [List.length_map,List.length_map,hN,←A7M fr]
    exact C8 (by omega) (Ev.bind (B3N (by rw [G8];omega)) (Ev.now _))
  · show Ev (fun k=>A8P (s7 k) (F1 k) (E6 k) _ _ _ _) _
    unfold A8P
    rw [List.length_map,List.length_map,hN]
    refine C1 (by omega) (Ev.bind (B3V (i:=0) (by decide) (by decide)) ?_)
    refine V5 (n:=f.length) (by omega) (fun k i (s:FV)=>s7 k (f.map fr) (g.map fr) (m:Int) (f.length:Int) i (tb m fun m=>fr (J6 f g m f.length)) s) (fun i=>fr (J6 f g m i)) ?_ fun i hi jh=>?_
    · show Ev (fun k=>A7a (t8 k) (s7 k) (O6 k) (M0 k) _ _ _ _ _ _ _) _
      unfold A7a
      rw [G8,A6f (h:=fun m=>fr (J6 f g m f.length)),wi (i:=m) (by omega)]
      exact C8 (by omega) (C1 (by omega) ih)
    · show Ev (fun k=>A7a (t8 k) (s7 k) (O6 k) (M0 k) _ _ _ _ _ _ _) _
      unfold A7a
      have hw:wrap64 ((m:Int)-(i:Int))=(m:Int)-(i:Int):=J5 (by omega) (by omega)
      rw [List.length_map,List.length_map,hw,wi (by omega)]
      refine C1 (by omega) ?_
      by_cases c:i≤m∧m-i<g.length
      · have e:(m:Int)-(i:Int)=((m-i:Nat):Int):=by omega
        rw [e,A4d hi,A4d c.2]
        refine C1 (by omega) (C1 (by omega) (M6 (by omega) (by omega) (M6 (by omega) (by omega) (Ev.bind (C5k (h.sf i) (h.sg _)) (Ev.bind (D3g (h.c m i (by omega)) (h.p i _)) ?_)))))
        have e2:J6 f g m (i+1)=J6 f g m i+co f i*co g (m-i):=if_pos c
        rw [e2]at jh
        exact jh
      · have e2:J6 f g m (i+1)=J6 f g m i:=if_neg c
        rw [e2]at jh
        by_cases c1:i≤m
        · exact C1 (by omega) (C8 (by omega) jh)
        · exact C8 (by omega) jh
end
theorem F5Y {f:FP} (hl:f.length<1000000):Ev (fun k=>A3V k f) f:=by
  show Ev (fun k=>A6R f) f
  unfold A6R
  exact C1 (by rw [List.length_nil];omega) (Ev.now _)
theorem E3C {α:Type} {n m:Nat} {h:Nat→α} (hm:m≤n):slice_ (tb n h) 0 (m:Int)=tb m h:=by
  unfold slice_
  rw [Int.toNat_natCast,show((0:Int)).toNat=0 from rfl,List.drop_zero]
  apply List.ext_getElem?
  intro j
  rw [List.getElem?_take]
  split
  · rename_i h;rw [A5l h,A5l (by omega)]
  · rename_i h;rw [List.getElem?_eq_none (by rw [G8];omega)]
section
variable (g:List Rat) (v:Rat)
def Y0 (k:Nat) (r:Nat→Rat) (m:Nat):Rat:=if k≤m∧m<k+g.length then r m-r (k+g.length-1)*v*co g (m-k)else r m
def dv:Nat→(Nat→Rat)→Nat→Rat
  |0,r=>r
  |k+1,r=>dv k (Y0 g v k r)
def qv:Nat→(Nat→Rat)→Nat→Rat
  |0,r=>fun _=>0
  |k+1,r=>fun j=>if j=k then r (k+g.length-1)*v else qv k (Y0 g v k r) j
def dOk:Nat→(Nat→Rat)→Prop
  |0,r=>∀m,Sm 9000 (r m)
  |k+1,r=>(∀m,Sm 9000 (r m))∧Sm 9000 (r (k+g.length-1)*v)∧(∀m,Sm 9000 (r (k+g.length-1)*v*co g m))∧dOk k (Y0 g v k r)
end
def A4a (n:Nat) (c:Nat→Rat):List Rat:=pl (n-1) c
def inv (g:List Rat):Rat:=(co g (g.length-1))⁻¹
def W4 (f g:List Rat):List Rat:=A4a g.length (dv g (inv g) (f.length+1-g.length) (co f))
def A8T (f g:List Rat):List Rat:=pl (f.length+1-g.length) (qv g (inv g) (f.length+1-g.length) (co f))
section
variable {g:List Rat} {v:Rat} (hg:Sl g) (h0:0<g.length) (hv:Sm 10000 v)
include hg h0 hv
theorem E2Z {L Q:Nat} (hL:L<1000000):∀(K:Nat) (r q:Nat→Rat),dOk g v K r→K≤Q→K+g.length≤L+1→g.length≤L+1→Q<1000000→
    Ev (fun k=>R8 k (g.map fr) (g.length:Int) ((K:Int)-1) (tb L fun m=>fr (r m)) (tb Q fun j=>fr (q j)) (fr v))
      ((pl Q fun j=>if j<K then qv g v K r j else q j).map fr,(A4a g.length (dv g v K r)).map fr):=by
  have lg:=hg.1
  intro K
  induction K with
  | zero=>
    intro r q hd hQ hK hn hQ2
    refine Ev.step (f:=fun k=>R8 (k+1) (g.map fr) (g.length:Int) (((0:Nat):Int)-1) (tb L fun m=>fr (r m)) (tb Q fun j=>fr (q j)) (fr v)) (fun k=>rfl) ?_
    show Ev (fun k=>A7K (R8 k) (i5 k) (D9 k) (F0 k) (I5 k) _ _ _ _ _ _) _
    unfold A7K
    have h1:=B4K (f:=tb Q fun j=>fr (q j)) (by rw [G8];omega)
    rw [B4P]at h1
    have h2:=B4K (f:=tb (g.length-1) fun j=>fr (r j)) (by rw [G8];omega)
    rw [B4P]at h2
    have hw:wrap64 ((g.length:Int)-1)=((g.length-1:Nat):Int):=by rw [J5 (by omega) (by omega)];omega
    rw [hw,G8,E3C (by omega)]
    exact C8 (by omega) (Ev.bind h1 (C1 (by decide) (C1 (by omega) (C1 (by omega) (C1 (Int.le_refl _) (Ev.bind h2 (Ev.now _)))))))
  | succ K ih=>
    intro r q hd hQ hK hn hQ2
    obtain⟨d1,d2,d3,d4⟩:=hd
    refine Ev.step (f:=fun k=>R8 (k+1) (g.map fr) (g.length:Int) (((K+1:Nat):Int)-1) (tb L fun m=>fr (r m)) (tb Q fun j=>fr (q j)) (fr v)) (fun k=>rfl) ?_
    have hk:((K+1:Nat):Int)-1=(K:Int):=by omega
    rw [hk]
    show Ev (fun k=>A7K (R8 k) (i5 k) (D9 k) (F0 k) (I5 k) _ _ _ _ _ _) _
    unfold A7K
    have hw:wrap64 (wrap64 ((K:Int)+(g.length:Int))-1)=((K+g.length-1:Nat):Int):=by rw [J5 (x:=(K:Int)+_) (by omega) (by omega),J5 (by omega) (by omega)];omega
    have hw2:wrap64 ((K:Int)-1)=(K:Int)-1:=J5 (by omega) (by omega)
    rw [hw,hw2,G8,G8,B3M (show K+g.length-1<L by omega)]
    refine C1 (by omega) (M6 (by omega) (by omega) (Ev.bind (C3W ((d1 _).mono (by decide)) hv) (M6 (by omega) (by omega) (Ev.bind (B7l _) ?_))))
    have hq:=A3l (n:=Q) (i:=K) (h:=fun j=>fr (q j)) (h':=fun j=>fr (if j=K then r (K+g.length-1)*v else q j)) (a:=fr (r (K+g.length-1)*v)) (by omega) fun j hj=>by
      by_cases e:j=K
      · rw [if_pos e,if_pos e]
      · rw [if_neg e,if_neg e]
    have hi:=ih (Y0 g v K r) (fun j=>if j=K then r (K+g.length-1)*v else q j) d4 (by omega) (by omega) hn hQ2
    have eq:(fun j=>if j<K then qv g v K (Y0 g v K r) j else if j=K then r (K+g.length-1)*v else q j)=fun j=>if j<K+1 then qv g v (K+1) r j else q j:=by
      funext j
      show _=if j<K+1 then(if j=K then _ else _)else _
      by_cases e:j<K
      · rw [if_pos e,if_pos (by omega),if_neg (by omega)]
      · rw [if_neg e]
        by_cases e2:j=K
        · rw [if_pos e2,if_pos (by omega),if_pos e2]
        · rw [if_neg e2,if_neg (by omega)]
    rw [eq]at hi
    rw [show((fr (r (K+g.length-1)*v)).1,(fr (r (K+g.length-1)*v)).2)=fr (r (K+g.length-1)*v)from rfl,hq,B3J]
    rcases Decidable.em (r (K+g.length-1)*v=0)with z|z
    · refine A1K (decide_eq_true z) ?_
      rw [b6 (h':=fun m=>fr (Y0 g v K r m)) fun m _=>?_]
      · exact hi
      · show fr (r m)=fr (if _ then _ else _)
        rw [z,Rat.zero_mul,Rat.sub_eq_add_neg,Rat.neg_zero,Rat.add_zero]
        split<;>rfl
    · refine A2m (decide_eq_false z) ?_
      rw [List.length_map]
      have:=V5 (n:=g.length) (by omega) (fun k j (s:FP)=>i5 k (g.map fr) (g.length:Int) (K:Int) (g.length:Int) j s (tb Q fun j=>fr (if j=K then r (K+g.length-1)*v else q j)) (fr v) (fr (r (K+g.length-1)*v)))
        (fun i=>tb L fun m=>fr (if K≤m∧m<K+i then r m-r (K+g.length-1)*v*co g (m-K)else r m)) (r:=((pl Q fun j=>if j<K+1 then qv g v (K+1) r j else q j).map fr,(A4a g.length (dv g v K (Y0 g v K r))).map fr)) ?_ fun j hj jh=>?_
      · rw [b6 (h':=fun m=>fr (r m)) fun m _=>by rw [if_neg (by omega)]]at this
        exact this
      · show Ev (fun k=>A8F (R8 k) (i5 k) (L5 k) (F0 k) _ _ _ _ _ _ _ _ _) _
        unfold A8F
        rw [hw2]
        exact C8 (by omega) hi
      · show Ev (fun k=>A8F (R8 k) (i5 k) (L5 k) (F0 k) _ _ _ _ _ _ _ _ _) _
        unfold A8F
        have hij:wrap64 ((K:Int)+(j:Int))=((K+j:Nat):Int):=by rw [J5 (by omega) (by omega)];omega
        rw [hij,wi (i:=j) (by omega),G8,A4d hj,B3M (show K+j<L by omega),if_neg (by omega)]
        refine C1 (by omega) (M6 (by omega) (by omega) (M6 (by omega) (by rw [List.length_map];omega) (Ev.bind (C3W (d2.mono (by decide)) (hg.co j)) (Ev.bind (D6R ((d1 _).mono (by decide)) ((d3 j).mono (by decide))) (M6 (by omega) (by omega) ?_)))))
        rw [A3l (h':=fun m=>fr (if K≤m∧m<K+(j+1)then r m-r (K+g.length-1)*v*co g (m-K)else r m)) (by omega) fun m hm=>?_]
        · exact jh
        · by_cases c:m=K+j
          · subst c;rw [if_pos rfl,if_pos (by omega),show K+j-K=j by omega]
          · rw [if_neg c]
            by_cases c2:K≤m∧m<K+j
            · rw [if_pos c2,if_pos (by omega)]
            · rw [if_neg c2,if_neg (by omega)]
end
theorem F0t (f:List Rat):f.map fr=tb f.length fun m=>fr (co f m):=by
  rw [←A7M fr]
  congr 1
  apply List.ext_getElem?
  intro j
  rcases Nat.lt_or_ge j f.length with h|h
  · rw [A5l h,List.getElem?_eq_getElem h];unfold co;rw [List.getD_eq_getElem?_getD,List.getElem?_eq_getElem h];rfl
  · rw [List.getElem?_eq_none h,List.getElem?_eq_none (by rw [G8];exact h)]
theorem D5d {f g:List Rat} (hf:Tr f) (h:f.length<g.length):W4 f g=f:=by
  unfold W4 A4a
  rw [show f.length+1-g.length=0 by omega]
  refine B4Z A0z hf fun j=>?_
  rw [A5K]
  split
  · rfl
  · rw [Y6 (by omega)]
theorem F0k {f g:List Rat} (h:f.length<g.length):A8T f g=[]:=by
  unfold A8T
  rw [show f.length+1-g.length=0 by omega]
  rfl
theorem E8A {f g:List Rat} (hf:f.length<400000) (ht:Tr f) (hg:Sl g) (h0:0<g.length) (hg0:Tr g) (hv:Sm 10000 (inv g)) (hd:dOk g (inv g) (f.length+1-g.length) (co f)):
    Ev (fun k=>W3 k (f.map fr) (g.map fr)) ((A8T f g).map fr,(W4 f g).map fr):=by
  have lg:=hg.1
  show Ev (fun k=>B3T (q8 k) (A3V k) _ _) _
  unfold B3T
  refine Ev.bind (F5Y (by rw [List.length_map];omega)) ?_
  rw [List.length_map,List.length_map]
  by_cases c:f.length<g.length
  · rw [D5d ht c,F0k c];exact C1 (by omega) (Ev.now _)
  have hw:wrap64 (wrap64 ((f.length:Int)-(g.length:Int))+1)=((f.length+1-g.length:Nat):Int):=by rw [J5 (x:=(f.length:Int)-_) (by omega) (by omega),J5 (by omega) (by omega)];omega
  have hw2:wrap64 ((f.length:Int)-(g.length:Int))=((f.length+1-g.length:Nat):Int)-1:=by rw [J5 (by omega) (by omega)];omega
  have hw3:wrap64 ((g.length:Int)-1)=((g.length-1:Nat):Int):=by rw [J5 (by omega) (by omega)];omega
  rw [hw]
  refine C8 (by omega) (C1 (by omega) (C1 (Int.le_refl _) (C1 (by rw [Int.toNat_natCast];omega) ?_)))
  rw [Int.toNat_natCast,List.length_replicate,A9L]
  refine V5 (n:=f.length+1-g.length) (by omega) (fun k i (s:FP)=>q8 k (f.map fr) (g.map fr) (g.length:Int) ((f.length+1-g.length:Nat):Int) i (f.map fr) s) (fun i=>tb (f.length+1-g.length) fun j=>if j<i then fr 0 else d0) ?_ fun i hi ih=>?_
  · show Ev (fun k=>A8A (q8 k) (R8 k) (E2 k) (Q2 k) _ _ _ _ _ _ _) _
    unfold A8A
    rw [hw3,List.length_map,List.length_map,hw2,A4d (show g.length-1<g.length by omega),b6 (h':=fun m=>fr 0) fun j hj=>if_pos hj]
    have h1:=E2Z hg h0 hv (L:=f.length) (Q:=f.length+1-g.length) (by omega) (f.length+1-g.length) (co f) (fun _=>0) hd (Nat.le_refl _) (by omega) (by omega) (by omega)
    rw [←F0t]at h1
    have e:(pl (f.length+1-g.length) fun j=>if j<f.length+1-g.length then qv g (inv g) (f.length+1-g.length) (co f) j else 0)=A8T f g:=by
      unfold A8T pl
      rw [b6 fun j hj=>if_pos hj]
    rw [e]at h1
    exact C8 (by omega) (M6 (by omega) (by omega) (Ev.bind (E9i (B3W hg0 h0)) h1))
  · show Ev (fun k=>A8A (q8 k) (R8 k) (E2 k) (Q2 k) _ _ _ _ _ _ _) _
    unfold A8A
    rw [wi (by omega),G8]
    refine C1 (by omega) (Ev.bind (B8R (i:=0) (by decide) (by decide)) (M6 (by omega) (by omega) ?_))
    rw [A3l (h':=fun j=>if j<i+1 then fr 0 else d0) hi fun j hj=>?_]
    · exact ih
    · by_cases e:j=i
      · subst e;rw [if_pos (by omega),if_pos rfl];rfl
      · rw [if_neg e];by_cases e2:j<i
        · rw [if_pos e2,if_pos (by omega)]
        · rw [if_neg e2,if_neg (by omega)]
theorem F6i {f g:List Rat} {m:Nat}:∀{i},f.length≤i→J6 f g m i=J6 f g m f.length:=by
  intro i h
  induction i with
  |zero=>rw [show f.length=0 by omega]
  | succ i ih=>
    rcases Nat.lt_or_ge i f.length with h1|h1
    · rw [show i+1=f.length by omega]
    · rw [←ih h1]
      show(if _ then _ else _)=_
      split
      · rw [Y6 h1,Rat.zero_mul,Rat.add_zero]
      · rfl
theorem F7Q {f g:List Rat} {m:Nat} (h:f.length+g.length-1≤m):∀{i},i≤f.length→J6 f g m i=0:=by
  intro i hi
  induction i with
  |zero=>rfl
  | succ i ih=>
    show(if _ then _ else _)=_
    rw [if_neg (by omega)];exact ih (by omega)
theorem C6W (f g:List Rat) (m:Nat):co (R5 f g) m=J6 f g m f.length:=by
  unfold R5
  rw [A5K]
  split
  · rfl
  · exact(F7Q (by omega) (Nat.le_refl _)).symm
def mono (k:Nat) (c:Rat):List Rat:=pl (k+1) fun j=>if j=k then c else 0
theorem B5X (k:Nat) (c:Rat) (j:Nat):co (mono k c) j=if j=k then c else 0:=by
  unfold mono
  rw [A5K]
  split
  · rfl
  · rw [if_neg (by omega)]
theorem B1z (k:Nat) (c:Rat):(mono k c).length≤k+1:=A6M _ _
theorem C4j (k:Nat) (c:Rat) (g:List Rat) (m:Nat):∀i,i≤k→J6 (mono k c) g m i=0
  |0,_=>rfl
  | i+1,h=>by
    show(if _ then _ else _)=_
    rw [C4j k c g m i (by omega),B5X,if_neg (show¬i=k by omega),Rat.zero_mul,Rat.add_zero]
    split<;>rfl
theorem D6y (k:Nat) (c:Rat) (g:List Rat) (m:Nat):J6 (mono k c) g m (k+1)=if k≤m∧m-k<g.length then c*co g (m-k)else 0:=by
  show(if _ then _ else _)=_
  rw [C4j k c g m k (Nat.le_refl _),B5X,if_pos rfl,Rat.zero_add]
theorem D7a (k:Nat) (c:Rat) (g:List Rat) (m:Nat):co (R5 (mono k c) g) m=if k≤m∧m-k<g.length then c*co g (m-k)else 0:=by
  rw [C6W,←F6i (B1z k c),D6y]
theorem sm0:Sm 9000 0:=D3k.mono (by decide)
theorem F8C {k:Nat} {c:Rat} (hk:k<400000):Ev (fun x=>A2k x (fr c) (k:Int)) ((mono k c).map fr):=by
  show Ev (fun k=>B21 (A1A k) _ _) _
  unfold B21
  refine V5 (n:=k) (by omega) (fun x i (s:FP)=>A1A x (k:Int) i (fr c) s) (fun i=>tb i fun _=>fr 0) ?_ fun i hi ih=>?_
  · show Ev (fun k=>A7c (A1A k) (F1 k) (E6 k) _ _ _ _) _
    unfold A7c
    have e:(tb k fun _=>fr 0)++[fr c]=(tb (k+1) fun j=>if j=k then c else 0).map fr:=by
      rw [A7M fr,←A6f,if_pos rfl]
      congr 1
      exact b6 fun j hj=>by rw [if_neg (by omega)]
    rw [G8,e]
    exact C8 (by omega) (C1 (by omega) (Ev.bind (B3N (g:=tb (k+1) fun j=>if j=k then c else 0) (by rw [G8];omega)) (Ev.now _)))
  · show Ev (fun k=>A7c (A1A k) (F1 k) (E6 k) _ _ _ _) _
    unfold A7c
    rw [wi (by omega),G8]
    refine C1 (by omega) (Ev.bind (B3V (i:=0) (by decide) (by decide)) (C1 (show(i+1)*40≤140737488355328 by omega) ?_))
    rw [show [((fr ((0:Int):Rat)).1,(fr ((0:Int):Rat)).2)]=[(fun _:Nat=>fr 0) i]from rfl,A6f (h:=fun _=>fr 0)]
    exact ih
theorem D2a {f:List Rat} (hl:f.length<1000000) (h:0<f.length):Ev (fun k=>Z0 k (f.map fr)) (fr (co f (f.length-1))):=by
  show Ev (fun k=>B80 (E6 k) _) _
  unfold B80
  have hw:wrap64 ((f.length:Int)-1)=((f.length-1:Nat):Int):=by rw [J5 (by omega) (by omega)];omega
  rw [List.length_map,hw,A4d (show f.length-1<f.length by omega)]
  exact C8 (by omega) (M6 (by omega) (by omega) (Ev.now _))
theorem B9W {g:List Rat} {v:Rat}:∀{K:Nat} {r:Nat→Rat} {j:Nat},K≤j→qv g v K r j=0
  |0,r,j,_=>rfl
  | K+1,r,j,h=>by
    show(if j=K then _ else _)=_
    rw [if_neg (by omega)]
    exact B9W (by omega)
theorem F1o {g:List Rat} {v:Rat} {k:Nat} {r:Nat→Rat} (h:r (k+g.length-1)*v=0):Y0 g v k r=r:=by
  funext m
  unfold Y0
  rw [h,Rat.zero_mul,Rat.sub_eq_add_neg,Rat.neg_zero,Rat.add_zero]
  split<;>rfl
section
variable {g:List Rat} (hg:Sl g) (h0:0<g.length) (hg0:Tr g) (hv:Sm 9000 (inv g))
include hg h0 hg0 hv
theorem F1p {k:Nat} {c:Rat} (hk:k<300000) (hl:g.length<400000) (hc:Sm 9000 c) (hp:∀m,Sm 9000 (c*co g m)):Ml (mono k c) g:=by
  have hm:∀j,co (mono k c) j=c∨co (mono k c) j=0:=fun j=>by
    rw [B5X];split
    · exact Or.inl rfl
    · exact Or.inr rfl
  refine⟨Nat.lt_of_le_of_lt (B1z k c) (by omega),hl,fun m i hi=>?_,fun i=>?_,hg.co,fun i j=>?_⟩
  · rcases Nat.lt_or_ge k i with h1|h1
    · have e:i=k+1:=by have:=B1z k c;omega
      rw [e,D6y]
      split
      · exact(hp _).mono (by decide)
      · exact sm0.mono (by decide)
    · rw [C4j k c g m i h1];exact sm0.mono (by decide)
  · rcases hm i with h|h
    · rw [h];exact hc.mono (by decide)
    · rw [h];exact sm0.mono (by decide)
  · rcases hm i with h|h
    · rw [h];exact(hp j).mono (by decide)
    · rw [h,Rat.zero_mul];exact sm0.mono (by decide)
theorem F6U (hl:g.length<400000):∀(K:Nat) (rest q:List Rat),Tr rest→rest.length<300000→K<300000→Sl q→Tr q→rest.length+1≤K+g.length→dOk g (inv g) K (co rest)→(∀j,j<K→co q j=0)→
    ∃Q,Tr Q∧(∀j,co Q j=co q j+qv g (inv g) K (co rest) j)∧Ev (fun k=>n8 k (g.map fr) (q.map fr) (rest.map fr)) (Q.map fr,(A4a g.length (dv g (inv g) K (co rest))).map fr):=by
  intro K
  induction K with
  | zero=>
    intro rest q ht hr hK hq tq hle hd hz
    refine⟨q,tq,fun j=>by show _=co q j+0;rw [Rat.add_zero],?_⟩
    refine Ev.step (f:=fun k=>n8 (k+1) (g.map fr) (q.map fr) (rest.map fr)) (fun k=>rfl) ?_
    show Ev (fun k=>A9D (n8 k) (K9 k) (A2k k) (W8 k) (Y8 k) (Z0 k) (t7 k) _ _ _) _
    unfold A9D
    rw [List.length_map,List.length_map]
    have e:A4a g.length (dv g (inv g) 0 (co rest))=rest:=B4Z A0z ht fun j=>by
      unfold A4a
      rw [A5K]
      split
      · rfl
      · rw [Y6 (by omega)]
    rw [e]
    exact C8 (by omega) (Ev.now _)
  | succ K ih=>
    intro rest q ht hr hK hq tq hle hd hz
    obtain⟨d1,d2,d3,d4⟩:=hd
    by_cases c:rest.length+1≤K+g.length
    · have hc0:co rest (K+g.length-1)*inv g=0:=by rw [Y6 (by omega),Rat.zero_mul]
      have e:=F1o (g:=g) (v:=inv g) (k:=K) (r:=co rest) hc0
      rw [e]at d4
      obtain⟨Q,h1,h2,h3⟩:=ih rest q ht hr (by omega) hq tq c d4 fun j hj=>hz j (by omega)
      refine⟨Q,h1,fun j=>?_,?_⟩
      · rw [h2 j]
        show _=_+if j=K then _ else qv g (inv g) K (Y0 g (inv g) K (co rest)) j
        rw [e]
        split
        · rename_i ej;rw [hc0,ej,B9W (Nat.le_refl _)]
        · rfl
      · show Ev _ (_,(A4a g.length (dv g (inv g) K (Y0 g (inv g) K (co rest)))).map fr)
        rw [e];exact h3
    · have hlen:rest.length=K+g.length:=by omega
      have hrl:rest.length-1=K+g.length-1:=by omega
      generalize hc:co rest (K+g.length-1)*inv g=w at d2 d3
      have hml:=F1p (k:=K) hg h0 hg0 hv (by omega) hl d2 d3
      have hdiv:Ev (fun k=>t7 k (fr (co rest (rest.length-1))) (fr (co g (g.length-1)))) (fr w):=by
        have:=E7V (a:=co rest (rest.length-1)) (b:=co g (g.length-1)) ((d1 _).mono (by decide)) (hg.co _) (B3W hg0 h0)
        rw [Rat.div_def,hrl]at this
        rw [hrl,←hc];exact this
      have e2:co (t5 rest (R5 (mono K w) g))=Y0 g (inv g) K (co rest):=by
        funext m
        rw [C8A,D7a]
        unfold Y0
        rw [hc]
        by_cases cm:K≤m∧m<K+g.length
        · rw [if_pos cm,if_pos (by omega)]
        · rw [if_neg cm,if_neg (by omega),Rat.sub_eq_add_neg,Rat.neg_zero,Rat.add_zero]
      have hz2:Y0 g (inv g) K (co rest) (K+g.length-1)=0:=by
        unfold Y0
        rw [if_pos (by omega),hc,show K+g.length-1-K=g.length-1 by omega,←hc]
        unfold inv
        rw [Rat.mul_assoc,Rat.inv_mul_cancel _ (B3W hg0 h0),Rat.mul_one,Rat.sub_eq_add_neg,Rat.add_neg_cancel]
      have hlr:(t5 rest (R5 (mono K w) g)).length≤K+g.length-1:=E4f A0z fun j hj=>by
        rw [e2]
        rcases Nat.lt_or_ge (K+g.length-1) j with h1|h1
        · unfold Y0
          rw [if_neg (by omega),Y6 (by omega)]
        · rw [show j=K+g.length-1 by omega];exact hz2
      have hmu:(R5 (mono K w) g).length<1000000∧∀a,a∈R5 (mono K w) g→Sm 9000 a:=by
        refine⟨Nat.lt_of_le_of_lt (A6M _ _) (by have:=B1z K w;omega),fun a ha=>?_⟩
        obtain⟨j,hj,rfl⟩:=B3v (B2E ha)
        rw [←C6W,D7a]
        split
        · exact d3 _
        · exact sm0
      have hrs:Sl rest:=⟨by omega,fun a ha=>by
        obtain⟨i,hi,rfl⟩:=List.getElem_of_mem ha
        have:=d1 i
        unfold co at this
        rw [List.getD_eq_getElem?_getD,List.getElem?_eq_getElem hi]at this
        exact Sm.mono this (by decide)⟩
      have hq':∀j,co (W7 q (mono K w)) j=co q j+if j=K then w else 0:=fun j=>by rw [C9X,B5X]
      have hms:Sl (mono K w):=⟨Nat.lt_of_le_of_lt (B1z _ _) (by omega),fun a ha=>by
        obtain⟨j,hj,rfl⟩:=B3v (B2E ha)
        show Sm 10000 (if j=K then w else 0)
        split
        · exact d2.mono (by decide)
        · exact sm0.mono (by decide)⟩
      rw [←e2]at d4
      obtain⟨Q,h1,h2,h3⟩:=ih (t5 rest (R5 (mono K w) g)) (W7 q (mono K w)) A0z (by omega) (by omega)
        (by
          refine⟨Nat.lt_of_le_of_lt (A6M _ _) (by have:=hq.1;have:=B1z K w;omega),fun a ha=>?_⟩
          obtain⟨j,hj,rfl⟩:=B3v (B2E ha)
          show Sm 10000 (co q j+co (mono K w) j)
          rw [B5X]
          split
          · rename_i ej;rw [ej,hz K (by omega),Rat.zero_add];exact d2.mono (by decide)
          · rw [Rat.add_zero];exact hq.co j)
        A0z (by omega) d4 (fun j hj=>by rw [hq',hz j (by omega),if_neg (by omega),Rat.add_zero])
      refine⟨Q,h1,fun j=>?_,?_⟩
      · rw [h2 j,hq',e2]
        show _=_+if j=K then co rest (K+g.length-1)*inv g else _
        rw [hc]
        split
        · rename_i ej;rw [ej,B9W (Nat.le_refl _),Rat.add_zero]
        · rw [Rat.add_zero]
      · refine Ev.step (f:=fun k=>n8 (k+1) (g.map fr) (q.map fr) (rest.map fr)) (fun k=>rfl) ?_
        show Ev (fun k=>A9D (n8 k) (K9 k) (A2k k) (W8 k) (Y8 k) (Z0 k) (t7 k) _ _ _) _
        unfold A9D
        have hw:wrap64 ((rest.length:Int)-(g.length:Int))=(K:Int):=by rw [J5 (by omega) (by omega)];omega
        rw [List.length_map,List.length_map,hw]
        rw [e2]at h3
        exact C1 (by omega) (Ev.bind (D2a (by omega) (by omega)) (Ev.bind (D2a (by omega) h0) (Ev.bind hdiv (Ev.bind (F8C (by omega)) (Ev.bind (C0v hq hms) (Ev.bind (D8h hml) (Ev.bind (D8G hrs hmu) h3)))))))
theorem E6K {f:List Rat} (hl:g.length<400000) (hf:f.length<200000) (ht:Tr f) (hd:dOk g (inv g) (f.length+1-g.length) (co f)):
    Ev (fun k=>A4j k (f.map fr) (g.map fr)) ((A8T f g).map fr,(W4 f g).map fr):=by
  show Ev (fun k=>B4B (n8 k) (F1 k) _ _) _
  unfold B4B
  have h1:=B3N (g:=f) (by omega)
  rw [ht.trim]at h1
  obtain⟨Q,q1,q2,q3⟩:=F6U hg h0 hg0 hv hl (f.length+1-g.length) f [] ht (by omega) (by omega) Sl.nil (fun a h=>by cases h) (by omega) hd fun j _=>Y6 (Nat.zero_le _)
  have e:Q=A8T f g:=E8X q1 fun j=>by
    rw [q2 j,Y6 (show([]:List Rat).length≤j from Nat.zero_le _),Rat.zero_add]
    split
    · rfl
    · exact B9W (by omega)
  rw [e]at q3
  exact Ev.bind h1 q3
theorem E3o {f:List Rat} (hl:g.length<400000) (hf:f.length<200000) (ht:Tr f) (hd:dOk g (inv g) (f.length+1-g.length) (co f)):
    Ev (fun k=>A4q k (f.map fr) (g.map fr)) ((W4 f g).map fr):=by
  show Ev (fun k=>B4d (A4j k) _ _) _
  unfold B4d
  exact Ev.bind (E6K hg h0 hg0 hv hl hf ht hd) (Ev.now _)
theorem F7f {f:List Rat} (hl:g.length<400000) (hf:f.length<200000) (ht:Tr f) (hd:dOk g (inv g) (f.length+1-g.length) (co f)):
    Ev (fun k=>A0m k (g.map fr) (f.map fr)) ((W4 f g).map fr):=by
  show Ev (fun k=>B5f (A4q k) _ _) _
  unfold B5f
  exact Ev.bind (E3o hg h0 hg0 hv hl hf ht hd) (Ev.now _)
theorem E5p {f:List Rat} (hf:f.length<200000) (ht:Tr f) (hd:dOk g (inv g) (f.length+1-g.length) (co f)):
    Ev (fun k=>O8 k (g.map fr) (f.map fr)) ((W4 f g).map fr):=by
  show Ev (fun k=>B3A (W3 k) _ _) _
  unfold B3A
  exact Ev.bind (E8A (by omega) ht hg h0 hg0 (hv.mono (by decide)) hd) (Ev.now _)
end
def Cs (D s:Nat) (q:Rat):Prop:=∃n:Int,q=mkRat n D∧(ab n).size≤s
section
variable {D E s t u:Nat} {a b:Rat} {n:Nat}
theorem Cs.mono (h:Cs D s a) (hs:s≤t):Cs D t a:=by obtain⟨n,e,h⟩:=h;exact⟨n,e,Nat.le_trans h hs⟩
theorem Cs.zero : Cs D s 0 := ⟨0, (Rat.zero_mkRat D).symm, by have:(ab 0).size=0:=by decide +kernel
                                                              omega⟩
theorem Cs.neg (h:Cs D s a):Cs D s (-a):=by
  obtain⟨n,rfl,h⟩:=h
  exact⟨-n,Rat.neg_mkRat n D,by rw [D3G];exact h⟩
theorem Cs.add (hD:D≠0) (ha:Cs D s a) (hb:Cs D t b) (hs:s≤u) (ht:t≤u):Cs D (u+1) (a+b):=by
  obtain⟨n,rfl,h1⟩:=ha
  obtain⟨m,rfl,h2⟩:=hb
  refine⟨n+m,?_,B3s (Nat.le_trans h1 hs) (Nat.le_trans h2 ht)⟩
  rw [Rat.mkRat_add_mkRat n m hD hD,←Int.add_mul,Rat.mkRat_mul_right hD]
theorem Cs.sub (hD:D≠0) (ha:Cs D s a) (hb:Cs D t b) (hs:s≤u) (ht:t≤u):Cs D (u+1) (a-b):=by
  rw [Rat.sub_eq_add_neg];exact ha.add hD hb.neg hs ht
theorem Cs.mul (ha:Cs D s a) (hb:Cs E t b):Cs (D*E) (s+t) (a*b):=by
  obtain⟨n,rfl,h1⟩:=ha
  obtain⟨m,rfl,h2⟩:=hb
  exact⟨n*m,Rat.mkRat_mul_mkRat n m D E,A2s h1 h2⟩
theorem Cs.sm (hD:D≠0) (h:Cs D s a) (hs:s≤t) (hd:(B2 D).size≤t):Sm t a:=by
  obtain⟨n,rfl,h1⟩:=h
  exact Sm.mk_ (Nat.le_trans h1 hs) hd hD
theorem Cs.int (h1:a.den=1) (h2:(ab a.num).size≤s):Cs 1 s a:=⟨a.num,by rw [←h1];exact(Rat.mkRat_self a).symm,h2⟩
theorem A1g (hD:D≠0) (hE:E≠0):D*E≠0:=Nat.mul_ne_zero hD hE
theorem D3o:∀{l:List Rat},(∀a,a∈l→Sm 8 a)→∃D,D≠0∧(B2 D).size≤8*l.length+1∧∀a,a∈l→Cs D (8*l.length+9) a
  | [],_=>⟨1,by decide,by decide +kernel,fun a h=>by cases h⟩
  | a::l,h=>by
    obtain⟨D,d1,d2,d3⟩:=D3o (l:=l) fun b hb=>h b (List.mem_cons_of_mem _ hb)
    obtain⟨a1,a2⟩:=h a List.mem_cons_self
    rw [List.length_cons]
    refine⟨a.den*D,A1g a.den_nz d1,Nat.le_trans (A2T a2 d2) (by omega),fun b hb=>?_⟩
    rcases List.mem_cons.1 hb with rfl|hb
    · refine⟨b.num*(D:Int),?_,Nat.le_trans (A2s a1 (n:=8*l.length+1) (by rw [j3];exact d2)) (by omega)⟩
      rw [Rat.mkRat_mul_right d1,Rat.mkRat_self]
    · obtain⟨n,rfl,h1⟩:=d3 b hb
      refine⟨(a.den:Int)*n,(Rat.mkRat_mul_left a.den_nz).symm,Nat.le_trans (A2s (m:=8) (by rw [j3];exact a2) h1) (by omega)⟩
end
structure Pz (D s B:Nat) (a:List Rat):Prop where
  len:a.length≤B
  tr:Tr a
  cs:∀m,Cs D s (co a m)
section
variable {D E s t u B C:Nat} {a b:List Rat}
theorem Pz.mono (h:Pz D s B a) (hs:s≤t) (hB:B≤C):Pz D t C a:=⟨Nat.le_trans h.len hB,h.tr,fun m=>(h.cs m).mono hs⟩
theorem Pz.nil:Pz D s B []:=⟨Nat.zero_le _,(fun a h=>by cases h),fun m=>by rw [Y6 (Nat.zero_le _)];exact Cs.zero⟩
theorem Pz.of (h1:a.length≤B) (h2:Tr a) (h3:∀x,x∈a→Cs D s x):Pz D s B a:=⟨h1,h2,fun m=>by
  rcases Nat.lt_or_ge m a.length with h|h
  · exact h3 _ (D8m h)
  · rw [Y6 h];exact Cs.zero⟩
theorem E6r {x:Rat} (h:x∈a):∃i,i<a.length∧x=co a i:=by
  obtain⟨i,hi,rfl⟩:=List.getElem_of_mem h
  refine⟨i,hi,?_⟩
  unfold co
  rw [List.getD_eq_getElem?_getD,List.getElem?_eq_getElem hi];rfl
theorem Pz.mem (h:Pz D s B a) {x:Rat} (hx:x∈a):Cs D s x:=by
  obtain⟨i,_,rfl⟩:=E6r hx
  exact h.cs i
theorem Pz.add (hD:D≠0) (ha:Pz D s B a) (hb:Pz D t C b) (hs:s≤u) (ht:t≤u):Pz D (u+1) (max B C) (W7 a b):=
  ⟨Nat.le_trans (A6M _ _) (by have:=ha.len;have:=hb.len;omega),A0z,fun m=>by rw [C9X];exact(ha.cs m).add hD (hb.cs m) hs ht⟩
theorem Pz.sub (hD:D≠0) (ha:Pz D s B a) (hb:Pz D t C b) (hs:s≤u) (ht:t≤u):Pz D (u+1) (max B C) (t5 a b):=
  ⟨Nat.le_trans (A6M _ _) (by have:=ha.len;have:=hb.len;omega),A0z,fun m=>by rw [C8A];exact(ha.cs m).sub hD (hb.cs m) hs ht⟩
theorem B6p (hD:D≠0) (hE:E≠0) (ha:Pz D s B a) (hb:Pz E t C b) (m:Nat):∀i,Cs (D*E) (s+t+i) (J6 a b m i)
  |0=>Cs.zero
  | i+1=>by
    show Cs _ _ (if _ then _ else _)
    split
    · exact(B6p hD hE ha hb m i).add (u:=s+t+i) (A1g hD hE) ((ha.cs i).mul (hb.cs _)) (Nat.le_refl _) (by omega)
    · exact(B6p hD hE ha hb m i).mono (by omega)
theorem Pz.mul (hD:D≠0) (hE:E≠0) (ha:Pz D s B a) (hb:Pz E t C b):Pz (D*E) (s+t+B) (B+C) (R5 a b):=
  ⟨Nat.le_trans (A6M _ _) (by have:=ha.len;have:=hb.len;omega),A0z,fun m=>by rw [C6W];exact(B6p hD hE ha hb m _).mono (by have:=ha.len;omega)⟩
theorem Pz.sl (hD:D≠0) (ha:Pz D s B a) (h1:(B2 D).size≤9000) (h2:s≤9000) (h3:B<400000):a.length<400000∧∀x,x∈a→Sm 9000 x:=
  ⟨Nat.lt_of_le_of_lt ha.len h3,fun x hx=>(ha.mem hx).sm hD h2 h1⟩
theorem Pz.Sl (hD:D≠0) (ha:Pz D s B a) (h1:(B2 D).size≤9000) (h2:s≤9000) (h3:B<400000):Sl a:=
  ⟨by have:=(ha.sl hD h1 h2 h3).1;omega,fun x hx=>((ha.sl hD h1 h2 h3).2 x hx).mono (by decide)⟩
theorem Pz.ml (hD:D≠0) (hE:E≠0) (ha:Pz D s B a) (hb:Pz E t C b) (h1:(B2 D).size+(B2 E).size≤9000) (h2:s+t+B≤9000) (h3:B<400000) (h4:C<400000):Ml a b:=by
  have hd:(B2 (D*E)).size≤9000:=Nat.le_trans (A2T (Nat.le_refl _) (Nat.le_refl _)) h1
  exact⟨by have:=ha.len;omega,by have:=hb.len;omega,fun m i hi=>(B6p hD hE ha hb m i).sm (A1g hD hE) (by have:=ha.len;omega) (by omega),
    fun i=>(ha.cs i).sm hD (by omega) (by omega),fun i=>(hb.cs i).sm hE (by omega) (by omega),fun i j=>((ha.cs i).mul (hb.cs j)).sm (A1g hD hE) (by omega) (by omega)⟩
end
structure Mk (M:List Rat):Prop where
  pz:Pz 1 8 30 M
  pos:0<M.length
  one:inv M=1
section
variable {D s B:Nat} {M a:List Rat} (hM:Mk M)
include hM
theorem D7F (hD:D≠0) {k:Nat} {r:Nat→Rat} (hr:∀m,Cs D s (r m)) (m:Nat):Cs D (s+9) (Y0 M (inv M) k r m):=by
  unfold Y0
  rw [hM.one]
  split
  · have h1:=(hr (k+M.length-1)).mul (hM.pz.cs (m-k))
    rw [Nat.mul_one]at h1
    rw [Rat.mul_one]
    exact(hr m).sub hD h1 (u:=s+8) (by omega) (Nat.le_refl _)
  · exact(hr m).mono (by omega)
theorem D8N (hD:D≠0):∀{K s:Nat} {r:Nat→Rat},(∀m,Cs D s (r m))→∀m,Cs D (s+9*K) (dv M (inv M) K r m)
  |0,s,r,h,m=>h m
  |K+1,s,r,h,m=>(D8N hD (K:=K) (D7F hM hD (k:=K) h) m).mono (by omega)
theorem C6o (hD:D≠0) (hd:(B2 D).size≤9000):∀{K s:Nat} {r:Nat→Rat},(∀m,Cs D s (r m))→s+9*K≤8900→dOk M (inv M) K r
  |0,s,r,h,hs=>fun m=>(h m).sm hD (by omega) hd
  | K+1,s,r,h,hs=>by
    refine⟨fun m=>(h m).sm hD (by omega) hd,?_,fun m=>?_,C6o hD hd (D7F hM hD (k:=K) h) (by omega)⟩
    · rw [hM.one,Rat.mul_one];exact(h _).sm hD (by omega) hd
    · have h1:=(h (K+M.length-1)).mul (hM.pz.cs m)
      rw [Nat.mul_one]at h1
      rw [hM.one,Rat.mul_one]
      exact h1.sm hD (by omega) hd
theorem Pz.rem (hD:D≠0) (ha:Pz D s B a):Pz D (s+9*B) (M.length-1) (W4 a M):=
  ⟨A6M _ _,A0z,fun m=>by
    unfold W4 A4a
    rw [A5K]
    split
    · exact(D8N hM hD ha.cs m).mono (by have:=ha.len;have:=hM.pos;omega)
    · exact Cs.zero⟩
theorem Mk.sl:Sl M:=hM.pz.Sl (by decide) (by decide +kernel) (by decide) (by decide)
theorem Mk.inv:Sm 9000 (inv M):=by rw [hM.one];exact⟨by decide +kernel,by decide +kernel⟩
theorem F6j (hD:D≠0) (ha:Pz D s B a) (hd:(B2 D).size≤9000) (hB:B<200000) (hs:s+9*B≤8900):Ev (fun k=>O8 k (M.map fr) (a.map fr)) ((W4 a M).map fr):=by
  have:=ha.len;have:=hM.pos
  exact E5p hM.sl hM.pos hM.pz.tr hM.inv (by omega) ha.tr (C6o hM hD hd ha.cs (by omega))
theorem F4e (hD:D≠0) (ha:Pz D s B a) (hd:(B2 D).size≤9000) (hB:B<200000) (hs:s+9*B≤8900):Ev (fun k=>A0m k (M.map fr) (a.map fr)) ((W4 a M).map fr):=by
  have:=ha.len;have:=hM.pos;have:=hM.pz.len
  exact F7f hM.sl hM.pos hM.pz.tr hM.inv (by omega) (by omega) ha.tr (C6o hM hD hd ha.cs (by omega))
end
abbrev PQ:=List (List Rat)
abbrev fm (F:PQ):List FP:=F.map (List.map fr)
def D6 (F:PQ) (i:Nat):List Rat:=F.getD i []
def plF (n:Nat) (c:Nat→List Rat):PQ:=J4 List.isEmpty (tb n c)
theorem D0a {F:PQ} {j:Nat} (h:F.length≤j):D6 F j=[]:=by unfold D6;rw [List.getD_eq_getElem?_getD,List.getElem?_eq_none h];rfl
theorem F2T {F:PQ} {j:Nat} (h:j<F.length):D6 F j∈F:=by unfold D6;rw [List.getD_eq_getElem?_getD,List.getElem?_eq_getElem h];exact List.getElem_mem h
theorem B2Y {F:PQ} {i:Nat} (h:i<F.length):C4 ([]:FP) (fm F) (i:Int)=(D6 F i).map fr:=by
  unfold C4 D6
  rw [Int.toNat_natCast,List.getD_eq_getElem?_getD,List.getElem?_map,List.getD_eq_getElem?_getD,List.getElem?_eq_getElem h];rfl
theorem M7 (F:PQ):(fm F).length=F.length:=List.length_map ..
theorem E7d (n:Nat) (c:Nat→List Rat):(plF n c).length≤n:=by have:=C6P List.isEmpty (tb n c);rwa [G8]at this
theorem D6d {l:PQ}:J4 List.isEmpty (fm l)=fm (J4 List.isEmpty l):=by
  rw [C8O]
  congr 2
  funext x
  cases x<;>rfl
theorem C5r {n:Nat} {c:Nat→List Rat} (hn:n<1000000):Ev (fun k=>E7 k (tb n fun i=>(c i).map fr)) (fm (plF n c)):=by
  have h:=F1u (f:=fm (tb n c)) (by rw [M7,G8];omega)
  rw [D6d]at h
  rw [←A7M (List.map fr)]
  exact h
theorem C2i {n:Nat} {c:Nat→List Rat} (hn:n<1000000):Ev (fun k=>N4 k (tb n fun i=>(c i).map fr)) (fm (plF n c)):=by
  have h:=F6O (f:=fm (tb n c)) (by rw [M7,G8];omega)
  rw [D6d]at h
  rw [←A7M (List.map fr)]
  exact h
theorem B7j {F:PQ} {i:Nat} (hi:i<1099511627776):Ev (fun k=>X4 k (fm F) (i:Int)) ((D6 F i).map fr):=by
  show Ev (fun k=>B3X _ _) _
  unfold B3X
  rw [M7]
  rcases Nat.lt_or_ge i F.length with h|h
  · rw [B2Y h];exact C1 (by omega) (M6 (by omega) (by omega) (Ev.now _))
  · rw [D0a h];exact C8 (by omega) (Ev.now _)
theorem B6t {F:PQ} {i:Nat} (hi:i<1099511627776):Ev (fun k=>X6 k (fm F) (i:Int)) ((D6 F i).map fr):=by
  show Ev (fun k=>B5P _ _) _
  unfold B5P
  rw [M7]
  rcases Nat.lt_or_ge i F.length with h|h
  · rw [B2Y h];exact C1 (by omega) (M6 (by omega) (by omega) (Ev.now _))
  · rw [D0a h];exact C8 (by omega) (Ev.now _)
def A3K (F G:PQ):PQ:=plF (max F.length G.length) fun i=>W7 (D6 F i) (D6 G i)
def A3M (F G:PQ):PQ:=plF (max F.length G.length) fun i=>t5 (D6 F i) (D6 G i)
theorem D7G {n i:Nat} {c:Nat→FP} {a:FP} {d:FP} (hi:i<n) (h:c i=a):(tb n fun j=>if j<i then c j else d).set (i:Int).toNat a=tb n fun j=>if j<i+1 then c j else d:=
  A3l hi fun j hj=>by
    by_cases e:j=i
    · rw [if_pos e,if_pos (by omega),e,h]
    · rw [if_neg e]
      by_cases e2:j<i
      · rw [if_pos e2,if_pos (by omega)]
      · rw [if_neg e2,if_neg (by omega)]
section
variable {F G:PQ} (lF:F.length<400000) (lG:G.length<400000) (hF:∀i,(D6 F i).length<400000∧∀x,x∈D6 F i→Sm 9000 x) (hG:∀i,(D6 G i).length<400000∧∀x,x∈D6 G i→Sm 9000 x)
include lF lG hF hG
theorem slF (i:Nat):Sl (D6 F i)∧Sl (D6 G i):=⟨⟨by have:=(hF i).1;omega,fun x hx=>((hF i).2 x hx).mono (by decide)⟩,⟨by have:=(hG i).1;omega,fun x hx=>((hG i).2 x hx).mono (by decide)⟩⟩
theorem F6p:Ev (fun k=>v6 k (fm F) (fm G)) (fm (A3K F G)):=by
  show Ev (fun k=>B4p (A1B k) _ _) _
  unfold B4p
  rw [M7,M7,A2z]
  refine C1 (by omega) (C1 (Int.le_refl _) (C1 (by rw [Int.toNat_natCast];omega) ?_))
  rw [Int.toNat_natCast,List.length_replicate,A9L]
  refine V5 (n:=max F.length G.length) (by omega) (fun k i (s:List FP)=>A1B k (fm F) (fm G) ((max F.length G.length:Nat):Int) i s)
    (fun i=>tb (max F.length G.length) fun j=>if j<i then(W7 (D6 F j) (D6 G j)).map fr else []) ?_ fun i hi ih=>?_
  · show Ev (fun k=>A8U (A1B k) (J3 k) (E7 k) (X4 k) _ _ _ _ _) _
    unfold A8U
    rw [b6 (h':=fun j=>(W7 (D6 F j) (D6 G j)).map fr) fun j hj=>if_pos hj]
    exact C8 (by omega) (Ev.bind (C5r (by omega)) (Ev.now _))
  · show Ev (fun k=>A8U (A1B k) (J3 k) (E7 k) (X4 k) _ _ _ _ _) _
    unfold A8U
    obtain⟨h1,h2⟩:=slF lF lG hF hG i
    rw [wi (by omega),G8]
    refine C1 (by omega) (Ev.bind (B7j (by omega)) (Ev.bind (B7j (by omega)) (Ev.bind (D4u h1 h2) (M6 (by omega) (by omega) ?_))))
    rw [D7G (c:=fun j=>(W7 (D6 F j) (D6 G j)).map fr) hi rfl]
    exact ih
theorem E7q:Ev (fun k=>A5P k (fm F) (fm G)) (fm (A3M F G)):=by
  show Ev (fun k=>B2z (A0P k) _ _) _
  unfold B2z
  rw [M7,M7,A2z]
  refine C1 (by omega) (C1 (Int.le_refl _) (C1 (by rw [Int.toNat_natCast];omega) ?_))
  rw [Int.toNat_natCast,List.length_replicate,A9L]
  refine V5 (n:=max F.length G.length) (by omega) (fun k i (s:List FP)=>A0P k (fm F) (fm G) ((max F.length G.length:Nat):Int) i s)
    (fun i=>tb (max F.length G.length) fun j=>if j<i then(t5 (D6 F j) (D6 G j)).map fr else []) ?_ fun i hi ih=>?_
  · show Ev (fun k=>A7R (A0P k) (E7 k) (S0 k) (X4 k) _ _ _ _ _) _
    unfold A7R
    rw [b6 (h':=fun j=>(t5 (D6 F j) (D6 G j)).map fr) fun j hj=>if_pos hj]
    exact C8 (by omega) (Ev.bind (C5r (by omega)) (Ev.now _))
  · show Ev (fun k=>A7R (A0P k) (E7 k) (S0 k) (X4 k) _ _ _ _ _) _
    unfold A7R
    obtain⟨h1,h2⟩:=slF lF lG hF hG i
    rw [wi (by omega),G8]
    refine C1 (by omega) (Ev.bind (B7j (by omega)) (Ev.bind (B7j (by omega)) (Ev.bind (F8I h1 h2) (M6 (by omega) (by omega) ?_))))
    rw [D7G (c:=fun j=>(t5 (D6 F j) (D6 G j)).map fr) hi rfl]
    exact ih
theorem E2Q:Ev (fun k=>A4z k (fm F) (fm G)) (fm (A3K F G)):=by
  show Ev (fun k=>B23 (A0F k) _ _) _
  unfold B23
  refine V5 (n:=max F.length G.length) (by omega) (fun k i (s:List FP)=>A0F k (fm F) (fm G) i s) (fun i=>tb i fun j=>(W7 (D6 F j) (D6 G j)).map fr) ?_ fun i hi ih=>?_
  · show Ev (fun k=>A9N (A0F k) (K9 k) (X6 k) (N4 k) _ _ _ _) _
    unfold A9N
    rw [M7,M7,A2z]
    exact C8 (by omega) (Ev.bind (C2i (by omega)) (Ev.now _))
  · show Ev (fun k=>A9N (A0F k) (K9 k) (X6 k) (N4 k) _ _ _ _) _
    unfold A9N
    obtain⟨h1,h2⟩:=slF lF lG hF hG i
    rw [M7,M7,A2z,wi (by omega),G8]
    refine C1 (by omega) (Ev.bind (B6t (by omega)) (Ev.bind (B6t (by omega)) (Ev.bind (C0v h1 h2) (C1 (by omega) ?_))))
    rw [A6f (h:=fun j=>(W7 (D6 F j) (D6 G j)).map fr)]
    exact ih
theorem E0Z:Ev (fun k=>A5O k (fm F) (fm G)) (fm (A3M F G)):=by
  show Ev (fun k=>B67 (A0u k) _ _) _
  unfold B67
  refine V5 (n:=max F.length G.length) (by omega) (fun k i (s:List FP)=>A0u k (fm F) (fm G) i s) (fun i=>tb i fun j=>(t5 (D6 F j) (D6 G j)).map fr) ?_ fun i hi ih=>?_
  · show Ev (fun k=>A8W (A0u k) (Y8 k) (X6 k) (N4 k) _ _ _ _) _
    unfold A8W
    rw [M7,M7,A2z]
    exact C8 (by omega) (Ev.bind (C2i (by omega)) (Ev.now _))
  · show Ev (fun k=>A8W (A0u k) (Y8 k) (X6 k) (N4 k) _ _ _ _) _
    unfold A8W
    obtain⟨h1,h2⟩:=slF lF lG hF hG i
    rw [M7,M7,A2z,wi (by omega),G8]
    refine C1 (by omega) (Ev.bind (B6t (by omega)) (Ev.bind (B6t (by omega)) (Ev.bind (D8G h1 ⟨h2.1,(hG i).2⟩) (C1 (by omega) ?_))))
    rw [A6f (h:=fun j=>(t5 (D6 F j) (D6 G j)).map fr)]
    exact ih
end
def L8 (F G:PQ) (m:Nat):Nat→List Rat
  |0=>[]
  |i+1=>if i≤m∧m-i<G.length then W7 (L8 F G m i) (R5 (D6 F i) (D6 G (m-i)))else L8 F G m i
def t3 (M:List Rat) (F G:PQ):PQ:=plF (F.length+G.length-1) fun m=>W4 (L8 F G m F.length) M
theorem D2L (F:PQ) (m:Nat):∀i,L8 F [] m i=[]
  |0=>rfl
  |i+1=>by unfold L8;rw [if_neg (fun h=>Nat.not_lt_zero _ h.2)];exact D2L F m i
theorem D8Y {n:Nat} {c:Nat→List Rat} (h:∀j,j<n→c j=[]):plF n c=[]:=by
  unfold plF
  rw [b6 h]
  induction n with
  |zero=>rfl
  |succ n ih=>rw [←A6f,B3G];exact(if_pos rfl).trans (ih fun j hj=>h j (by omega))
section
variable {D E s t B C:Nat} {M:List Rat} {F G:PQ} (hM:Mk M)
include hM
theorem D7s:W4 [] M=[]:=D5d (fun a h=>by cases h) hM.pos
theorem E1R (G:PQ):t3 M [] G=[]:=D8Y fun j _=>D7s hM
theorem E8b (F:PQ):t3 M F []=[]:=D8Y fun j _=>by rw [D2L];exact D7s hM
variable (hD:D≠0) (hE:E≠0) (hF:∀i,Pz D s B (D6 F i)) (hG:∀i,Pz E t C (D6 G i)) (lF:F.length<100000) (lG:G.length<100000)
  (b1:(B2 D).size+(B2 E).size≤9000) (b2:s+t+B+F.length+9*(B+C)≤8000) (b3:B+C<100000)
include hD hE hF hG
theorem B2o (m:Nat):∀i,Pz (D*E) (s+t+B+i) (B+C) (L8 F G m i)
  |0=>Pz.nil
  | i+1=>by
    show Pz _ _ _ (if _ then _ else _)
    split
    · have:=(B2o m i).add (u:=s+t+B+i) (A1g hD hE) ((hF i).mul hD hE (hG (m-i))) (Nat.le_refl _) (by omega)
      rw [Nat.max_self]at this
      exact this
    · exact(B2o m i).mono (by omega) (Nat.le_refl _)
include lF lG b1 b2 b3
theorem B9g:(B2 (D*E)).size≤9000:=Nat.le_trans (A2T (Nat.le_refl _) (Nat.le_refl _)) b1
theorem D9Z (m:Nat) {i:Nat} (hi:i≤F.length):Sl (L8 F G m i):=(B2o hM hD hE hF hG m i).Sl (A1g hD hE) (B9g hM hD hE hF hG lF lG b1 b2 b3) (by omega) (by omega)
theorem D6m (i j:Nat):Sl (R5 (D6 F i) (D6 G j)):=((hF i).mul hD hE (hG j)).Sl (A1g hD hE) (B9g hM hD hE hF hG lF lG b1 b2 b3) (by omega) (by omega)
theorem D4f (i j:Nat):Ml (D6 F i) (D6 G j):=(hF i).ml hD hE (hG j) b1 (by omega) (by omega) (by omega)
theorem E3b:Ev (fun k=>v3 k (M.map fr) (fm F) (fm G)) (fm (t3 M F G)):=by
  show Ev (fun k=>B3L (o8 k) _ _ _) _
  unfold B3L
  rw [M7,M7]
  rcases Nat.eq_zero_or_pos F.length with e|e
  · rw [List.length_eq_zero_iff.1 e,E1R hM];exact C1 rfl (Ev.now _)
  refine C8 (by omega) ?_
  rcases Nat.eq_zero_or_pos G.length with e'|e'
  · rw [List.length_eq_zero_iff.1 e',E8b hM];exact C1 rfl (Ev.now _)
  refine C8 (by omega) ?_
  have hN:wrap64 (wrap64 ((F.length:Int)+(G.length:Int))-1)=((F.length+G.length-1:Nat):Int):=by rw [J5 (x:=(F.length:Int)+_) (by omega) (by omega),J5 (by omega) (by omega)];omega
  rw [hN]
  clear hN
  refine C1 (by omega) (C1 (Int.le_refl _) (C1 (by rw [Int.toNat_natCast];omega) ?_))
  rw [Int.toNat_natCast,A9L]
  generalize hn:F.length+G.length-1=N
  have fin:Ev (fun k=>f7 k (N:Int) 0 (M.map fr) (tb N fun m=>(L8 F G m F.length).map fr)) (fm (t3 M F G)):=by
    refine V5 (n:=N) (by omega) (fun k i (s:List FP)=>f7 k (N:Int) i (M.map fr) s) (fun i=>tb N fun m=>if m<i then(W4 (L8 F G m F.length) M).map fr else(L8 F G m F.length).map fr) ?_ fun i hi ih=>?_
    · show Ev (fun k=>A8L (f7 k) (E7 k) (O8 k) _ _ _ _) _
      unfold A8L
      rw [b6 (h':=fun m=>(W4 (L8 F G m F.length) M).map fr) fun m hm=>if_pos hm]
      unfold t3
      rw [hn]
      exact C8 (by omega) (Ev.bind (C5r (by omega)) (Ev.now _))
    · show Ev (fun k=>A8L (f7 k) (E7 k) (O8 k) _ _ _ _) _
      unfold A8L
      rw [wi (by omega),G8,B3M hi,if_neg (by omega)]
      refine P4 (by omega) (by omega) (by omega) (Ev.bind (F6j hM (A1g hD hE) (B2o hM hD hE hF hG i F.length) (B9g hM hD hE hF hG lF lG b1 b2 b3) (by omega) (by omega)) (M6 (by omega) (by omega) ?_))
      rw [A3l (h':=fun m=>if m<i+1 then(W4 (L8 F G m F.length) M).map fr else(L8 F G m F.length).map fr) hi fun m hm=>?_]
      · exact ih
      · by_cases e:m=i
        · subst e;rw [if_pos (by omega),if_pos rfl]
        · rw [if_neg e];by_cases e2:m<i
          · rw [if_pos e2,if_pos (by omega)]
          · rw [if_neg e2,if_neg (by omega)]
  refine V5 (n:=F.length) (by omega) (fun k i (s:List FP)=>o8 k (fm G) (fm F) (F.length:Int) i (M.map fr) s) (fun i=>tb N fun m=>(L8 F G m i).map fr) ?_ fun i hi ih=>?_
  · show Ev (fun k=>A8j (j8 k) (f7 k) _ _ _ _ _ _) _
    unfold A8j
    rw [G8]
    exact C8 (by omega) fin
  · show Ev (fun k=>A8j (j8 k) (f7 k) _ _ _ _ _ _) _
    unfold A8j
    rw [B2Y hi,M7,M7]
    refine P4 (by omega) (by omega) (by omega) ?_
    have:=V5 (n:=G.length) (by omega) (fun k j (s:List FP)=>j8 k (fm G) (i:Int) ((D6 F i).map fr) (fm F) (F.length:Int) (i:Int) (fm G) (G.length:Int) j (M.map fr) s)
      (fun j=>tb N fun m=>(if i≤m∧m<i+j then W7 (L8 F G m i) (R5 (D6 F i) (D6 G (m-i)))else L8 F G m i).map fr) (r:=fm (t3 M F G)) ?_ fun j hj jh=>?_
    · rw [b6 (h':=fun m=>(L8 F G m i).map fr) fun m _=>by rw [if_neg (by omega)]]at this
      exact this
    · show Ev (fun k=>A8h (o8 k) (j8 k) (J3 k) (L3 k) _ _ _ _ _ _ _ _ _ _ _) _
      unfold A8h
      rw [wi (i:=i) (by omega),b6 (h':=fun m=>(L8 F G m (i+1)).map fr) fun m _=>?_]
      · exact C8 (by omega) ih
      · show List.map fr (if _ then _ else _)=List.map fr (if _ then _ else _)
        by_cases c:i≤m∧m<i+G.length
        · rw [if_pos c,if_pos (by omega)]
        · rw [if_neg c,if_neg (by omega)]
    · show Ev (fun k=>A8h (o8 k) (j8 k) (J3 k) (L3 k) _ _ _ _ _ _ _ _ _ _ _) _
      unfold A8h
      have hlt:i+j<N:=by omega
      have hij:wrap64 ((i:Int)+(j:Int))=((i+j:Nat):Int):=by rw [J5 (by omega) (by omega)];omega
      rw [hij,wi (i:=j) (by omega),G8,B2Y hj,B3M (d:=([]:FP)) (h:=fun m=>(if i≤m∧m<i+j then W7 (L8 F G m i) (R5 (D6 F i) (D6 G (m-i)))else L8 F G m i).map fr) hlt,if_neg (show¬(i≤i+j∧i+j<i+j)from fun h=>Nat.lt_irrefl _ h.2)]
      clear hij
      refine P4 (by omega) (by omega) (by rw [M7];omega) (M6 (by omega) (by omega) (Ev.bind (F4K (D4f hM hD hE hF hG lF lG b1 b2 b3 i j)) (Ev.bind (D4u (D9Z hM hD hE hF hG lF lG b1 b2 b3 _ (by omega)) (D6m hM hD hE hF hG lF lG b1 b2 b3 i j)) (M6 (by omega) (by omega) ?_))))
      rw [A3l (h':=fun m=>(if i≤m∧m<i+(j+1)then W7 (L8 F G m i) (R5 (D6 F i) (D6 G (m-i)))else L8 F G m i).map fr) (by omega) fun m hm=>?_]
      · exact jh
      · by_cases c:m=i+j
        · subst c;rw [if_pos rfl,if_pos (by omega),show i+j-i=j by omega]
        · rw [if_neg c]
          by_cases c2:i≤m∧m<i+j
          · rw [if_pos c2,if_pos (by omega)]
          · rw [if_neg c2,if_neg (by omega)]
theorem E9w:Ev (fun k=>A5A k (M.map fr) (fm F) (fm G)) (fm (t3 M F G)):=by
  show Ev (fun k=>B30 (w8 k) _ _ _) _
  unfold B30
  have hN:wrap64 (wrap64 ((F.length:Int)+(G.length:Int))-1)=(F.length:Int)+(G.length:Int)-1:=by rw [J5 (x:=(F.length:Int)+_) (by omega) (by omega),J5 (by omega) (by omega)]
  refine V5 (n:=F.length+G.length-1) (by omega) (fun k i (s:List FP)=>w8 k (fm F) (fm G) i (M.map fr) s) (fun i=>tb i fun m=>(W4 (L8 F G m F.length) M).map fr) ?_ fun m hm ih=>?_
  · show Ev (fun k=>A9B (p9 k) (N4 k) _ _ _ _ _) _
    unfold A9B
    rw [M7,M7,hN]
    exact C8 (by omega) (Ev.bind (C2i (by omega)) (Ev.now _))
  · show Ev (fun k=>A9B (p9 k) (N4 k) _ _ _ _ _) _
    unfold A9B
    rw [M7,M7,hN]
    refine C1 (by omega) ?_
    refine V5 (n:=F.length) (by omega) (fun k i (s:FP)=>p9 k (fm F) (fm G) (m:Int) s (F.length:Int) i (M.map fr) (tb m fun m=>(W4 (L8 F G m F.length) M).map fr)) (fun i=>(L8 F G m i).map fr) ?_ fun i hi jh=>?_
    · show Ev (fun k=>A9E (w8 k) (p9 k) (K9 k) (W8 k) (A0m k) _ _ _ _ _ _ _ _) _
      unfold A9E
      rw [G8,wi (i:=m) (by omega)]
      refine C8 (by omega) (Ev.bind (F4e hM (A1g hD hE) (B2o hM hD hE hF hG m F.length) (B9g hM hD hE hF hG lF lG b1 b2 b3) (by omega) (by omega)) (C1 (by omega) ?_))
      rw [A6f (h:=fun m=>(W4 (L8 F G m F.length) M).map fr)]
      exact ih
    · show Ev (fun k=>A9E (w8 k) (p9 k) (K9 k) (W8 k) (A0m k) _ _ _ _ _ _ _ _) _
      unfold A9E
      have hw:wrap64 ((m:Int)-(i:Int))=(m:Int)-(i:Int):=J5 (by omega) (by omega)
      rw [M7,M7,hw,wi (i:=i) (by omega)]
      refine C1 (by omega) ?_
      by_cases c:i≤m∧m-i<G.length
      · have e:(m:Int)-(i:Int)=((m-i:Nat):Int):=by omega
        rw [e,B2Y hi,B2Y c.2]
        refine C1 (by omega) (C1 (by omega) (M6 (by omega) (by omega) (M6 (by omega) (by omega) (Ev.bind (D8h (D4f hM hD hE hF hG lF lG b1 b2 b3 i _)) (Ev.bind (C0v (D9Z hM hD hE hF hG lF lG b1 b2 b3 _ (by omega)) (D6m hM hD hE hF hG lF lG b1 b2 b3 i _)) ?_)))))
        have e2:L8 F G m (i+1)=W7 (L8 F G m i) (R5 (D6 F i) (D6 G (m-i))):=if_pos c
        rw [e2]at jh
        exact jh
      · have e2:L8 F G m (i+1)=L8 F G m i:=if_neg c
        rw [e2]at jh
        by_cases c1:i≤m
        · exact C1 (by omega) (C8 (by omega) jh)
        · exact C8 (by omega) jh
end
theorem C3e {a b:ByteArray} (h:E4 a b=true):a=b:=by
  rw [E8]at h
  exact D7q.1 (eq_of_beq h)
theorem F1N {a:Rat} (h:B1T (fr a)=true):a=1:=by
  unfold B1T at h
  rw [Bool.and_eq_true,Bool.and_eq_true]at h
  obtain⟨⟨h1,h2⟩,h3⟩:=h
  exact F8G (b:=((1:Int):Rat)) (Prod.ext (Prod.ext (eq_of_beq h1) (C3e h2)) (C3e h3))
theorem E1L {a:Rat} (h:wh (fr a)=true):a.den=1:=by
  have h1:B2 a.den=⟨#[1]⟩:=C3e h
  rw [←A9p]at h1
  exact B1p.1 h1
theorem D5F {m:FP} (h:A5B m 4=true):∃M,m=M.map fr∧Mk M∧M.length≤5∧2≤M.length:=by
  unfold A5B at h
  split at h
  · cases h
  · rename_i c
    split at h
    · cases h
    · rename_i c2
      have hf:=Decidable.not_not.1 c2
      obtain⟨p1,p2,p3⟩:=B7C hf
      obtain⟨M,rfl,h1,h2,h3⟩:=D6v p1
      rw [List.length_map]at c p2
      have hall:=List.all_eq_true.1 h
      unfold form at hf
      rw [if_neg (fun x=>x p1),List.length_map,if_neg (by omega)]at hf
      split at hf
      · cases hf
      · rename_i l1
        split at hf
        · cases hf
        · rename_i l2
          have e1:B2p (M.map fr)=true:=by cases hx:B2p (M.map fr)with|true=>rfl|false=>rw [hx]at l1;exact absurd rfl l1
          have e2:(M.map fr).all wh=true:=by cases hx:(M.map fr).all wh with|true=>rfl|false=>rw [hx]at l2;exact absurd rfl l2
          have hwh:=List.all_eq_true.1 e2
          have hinv:inv M=1:=by
            have hl:M.getLast?=some (co M (M.length-1)):=by
              unfold co
              rw [List.getD_eq_getElem?_getD,List.getLast?_eq_getElem?,List.getElem?_eq_getElem (by omega)];rfl
            unfold B2p at e1
            rw [List.getLast?_map,hl]at e1
            unfold inv
            rw [F1N e1];decide +kernel
          refine⟨M,rfl,⟨Pz.of (by omega) h3 fun x hx=>Cs.int (E1L (hwh _ (List.mem_map_of_mem hx))) ?_,by omega,hinv⟩,by omega,p2⟩
          have h4:=hall _ (List.mem_map_of_mem (f:=fr) hx)
          unfold sm4 at h4
          split at h4
          · cases h4
          · rename_i h5
            have:(ab x.num).size≤4:=Nat.not_lt.1 h5
            omega
def Few (F:PQ):Prop:=F.length≤5∧∀a,a∈F→(∀q,q∈a→Sm 8 q)∧Tr a∧a.length≤4
theorem C8F:∀{F:PQ},(∀a,a∈F→a.length≤4)→F.flatten.length≤4*F.length
  | [],_=>Nat.le_refl _
  | a::F,h=>by
    rw [List.flatten_cons,List.length_append,List.length_cons]
    have:=C8F (F:=F) fun b hb=>h b (List.mem_cons_of_mem _ hb)
    have:=h a List.mem_cons_self
    omega
theorem D5W {F:PQ} {D s:Nat} (h:Few F) (hc:∀a,a∈F→∀q,q∈a→Cs D s q) (i:Nat):Pz D s 4 (D6 F i):=by
  rcases Nat.lt_or_ge i F.length with h1|h1
  · have hm:=F2T h1
    exact Pz.of (h.2 _ hm).2.2 (h.2 _ hm).2.1 (hc _ hm)
  · rw [D0a h1];exact Pz.nil
theorem F4t {F G:PQ} (hF:Few F) (hG:Few G):∃D,D≠0∧(B2 D).size≤330∧(∀i,Pz D 330 4 (D6 F i))∧∀i,Pz D 330 4 (D6 G i):=by
  have h1:=C8F fun a ha=>(hF.2 a ha).2.2
  have h2:=C8F fun a ha=>(hG.2 a ha).2.2
  obtain⟨D,d1,d2,d3⟩:=D3o (l:=F.flatten++G.flatten) fun q hq=>by
    rcases List.mem_append.1 hq with hq|hq
    · obtain⟨a,ha,hq⟩:=List.mem_flatten.1 hq
      exact(hF.2 a ha).1 q hq
    · obtain⟨a,ha,hq⟩:=List.mem_flatten.1 hq
      exact(hG.2 a ha).1 q hq
  have hl:(F.flatten++G.flatten).length≤40:=by rw [List.length_append];have:=hF.1;have:=hG.1;omega
  refine⟨D,d1,by omega,D5W hF fun a ha q hq=>(d3 q (List.mem_append_left _ (List.mem_flatten.2 ⟨a,ha,hq⟩))).mono (by omega),D5W hG fun a ha q hq=>(d3 q (List.mem_append_right _ (List.mem_flatten.2 ⟨a,ha,hq⟩))).mono (by omega)⟩
theorem C7T {n D s B:Nat} {c:Nat→List Rat} (hn:n≤65) (hD:D≠0) (hd:(B2 D).size≤1024) (hs:s≤1024) (hB:B<400000) (h:∀i,Pz D s B (c i)):A3C (fm (plF n c)):=by
  refine⟨by rw [M7];exact Nat.le_trans (E7d n c) hn,fun a ha=>?_⟩
  obtain⟨b,hb,rfl⟩:=List.mem_map.1 ha
  obtain⟨j,_,rfl⟩:=B3v (B2E hb)
  refine⟨by rw [List.length_map];have:=(h j).len;omega,fun x hx=>?_⟩
  obtain⟨q,hq,rfl⟩:=List.mem_map.1 hx
  exact⟨q,rfl,((h j).mem hq).sm hD hs hd⟩
theorem A3C.same {w:List FP} (h:A3C w):Ev (fun k=>N5 k w w) true:=E9d (by have:=h.1;omega) fun a ha=>(h.2 a ha).1
theorem C8Z {α:Type} {a b:Nat→Option Bool} {w:List α} {e:Int} (h:e≠0) (hw:w=[]):Ev (fun k=>if e≠0 then(if e=e then(some (decide ((w.length:Int)=0)))else a k)else b k) true:=by
  subst hw;exact C1 h (C1 rfl (Ev.now _))
theorem F0a {m:FP} {l:List (List FP)} (hm:form m=0) (h:B9i m l=false):A5B m 4=true∧∀f,f∈l→kck m f=0→∃F:PQ,f=fm F∧Few F:=by
  unfold B9i at h
  rw [if_neg (fun x=>x hm)]at h
  split at h
  · cases h
  · rename_i hb
    have hk:A5B m 4=true:=by cases hx:A5B m 4 with|true=>rfl|false=>rw [hx]at h;cases h
    refine⟨hk,fun f hf hc=>?_⟩
    have hbf:bad m f=false:=by
      cases hx:bad m f with
      |false=>rfl
      |true=>exact absurd (List.any_eq_true.2 ⟨f,hf,hx⟩) hb
    unfold bad at hbf
    rw [if_pos hc]at hbf
    have hF:A9M m f 4 4=true:=by cases hx:A9M m f 4 4 with|true=>rfl|false=>rw [hx]at hbf;cases hbf
    obtain⟨F,rfl,h1,h2⟩:=E3M hF
    obtain⟨M,rfl,_,hl,_⟩:=D5F hk
    exact⟨F,rfl,h2,fun a ha=>⟨(h1 a ha).1,(h1 a ha).2.1,by have:=(h1 a ha).2.2;rw [List.length_map]at this;omega⟩⟩
theorem E7U {m:FP} {f:List FP} (h:kck m f=0):form m=0:=by
  unfold kck at h
  by_cases c:form m≠0
  · rw [if_pos c]at h;exact h
  · exact Decidable.not_not.1 c
theorem D5y (m:FP) (f g:List FP):fst m [f,g]=N7 id 0 [kck m f,kck m g]:=by
  unfold fst kck N7 N7 N7
  by_cases c:form m≠0
  · rw [if_pos c,if_pos c,if_pos c,if_pos (show id (form m)≠0 from c)];rfl
  · rw [if_neg c,if_neg c,if_neg c];rfl
theorem E8Q {a b:Int} (h:N7 id 0 [a,b]=0):a=0∧b=0:=by
  obtain⟨h1,_⟩:=C8f h
  exact⟨h1 a (by simp),h1 b (by simp)⟩
end Go.Proofs.YtijohnkgomcdbaaGreatV
set_option maxRecDepth 10000
namespace Go.Proofs.YtijohnkgomcdbaaGreatV
open Go Go.RowKit YtijohnkgomcdbaaGreat YtijohnkgomcdbaaGreatE YtijohnkgomcdbaaGreatW.PrintWords YtijohnkgomcdbaaGreatW.PrintLast YtijohnkgomcdbaaGreatW.PrintMore
theorem B7:E9 Tryz.prog E0:=⟨by kernel_rfl,by kernel_rfl,by kernel_rfl⟩
theorem HM:Tryz.prog.follows .mixedOrders=true:=Tryz.checked.mixed
section
variable {P:Program} {f:Nat}
theorem E6o {k:IntKind} {x:Int} {r:V} (h:∀w,A3n P f #[.int k x] w fun v w'=>w'=w∧∀bl φ,C3 w bl φ r v):Ct P f [.a (.v (.it k) x)] [] r []:=by
 refine⟨(fun q hq=>nomatch hq),fun w0 bl0 φ0 vs _ hm hr=>?_⟩
 cases hr with
 |cons h1 hr=>
  cases hr with
  |nil=>
   rw [E3.1 h1]
   exact(h w0).mono fun v w' ⟨e,hv⟩=>⟨φ0,by rw [e];exact E1.refl hm,by rw [e];exact hv _ _⟩
theorem D1R {k1 k2 k3:IntKind} {x y z:Int} {r:V} (h:∀w,A3n P f #[.int k1 x, .int k2 y, .int k3 z] w fun v w'=>w'=w∧∀bl φ,C3 w bl φ r v):Ct P f [.a (.v (.it k1) x), .a (.v (.it k2) y), .a (.v (.it k3) z)] [] r []:=by
 refine⟨(fun q hq=>nomatch hq),fun w0 bl0 φ0 vs _ hm hr=>?_⟩
 cases hr with
 |cons h1 hr=>
  cases hr with
  |cons h2 hr=>
   cases hr with
   |cons h3 hr=>
    cases hr with
    |nil=>
     rw [E3.1 h1,E3.1 h2,E3.1 h3]
     exact(h w0).mono fun v w' ⟨e,hv⟩=>⟨φ0,by rw [e];exact E1.refl hm,by rw [e];exact hv _ _⟩
theorem E6L {fn:Func} {c:Code} (hf:P.funcs[f]?=some fn) (hname:(fn.name== "runtime.NumGoroutine")=false) (hb:fn.body=some c) {args:Array Value} {w:World} {Q:Value→World→Prop} (h:Calls P f args w fun e w'=>∃v,e= .returned v∧Q v w'):A3n P f args w Q:=
 Or.inl ⟨by simp only [callFunc,Sem.run_bind,run_program,Result.andThen_ok,hf,hname,hb,Option.isNone_some,Bool.false_eq_true,if_false,Sem.run_pure],h⟩
end
theorem C5a (k:Nat):B5 Tryz.prog (C0P (M8 k)):=by
 rintro⟨⟨x,y,c,⟨⟩⟩,⟨⟩⟩ o h v hv
 replace h:All.bits_Add64.f x y c=some o:=h
 cases hv
 unfold All.bits_Add64.f at h
 by_cases hc:0≤x∧0≤y∧0≤c∧c≤1
 ·rw [if_pos hc]at h
  cases h
  refine D1R fun w=>Or.inr ⟨_,w,?_,rfl,fun bl φ=>⟨_,rfl, .cons (E3.2 rfl) (.cons (E3.2 rfl) .nil)⟩⟩
  show(callFunc 247 #[.int .u64 x, .int .u64 y, .int .u64 c]).run _ w=_
  rw [run_callFunc_extern Tryz.func247 (by kernel_rfl) (by kernel_rfl) (by kernel_rfl) (by kernel_rfl),run_add64 x y c hc.1 hc.2.1 hc.2.2.1 hc.2.2.2]
  rfl
 ·rw [if_neg hc]at h;cases h
theorem E5U (x y c:Int) (hx:0≤x) (hy:0≤y) (hc0:0≤c) (hc:c≤1) (w:World):
  (callFunc 248 #[.int .u64 x, .int .u64 y, .int .u64 c]).run Tryz.prog w= .ok (.value (.tuple #[.int .u64 ((x-y-c)%18446744073709551616), .int .u64 (if x<y+c then 1 else 0)])) w∨¬y≤18446744073709551615:=by
 by_cases hym:y≤18446744073709551615
 ·refine Or.inl ?_
  obtain⟨X,rfl⟩:=Int.eq_ofNat_of_zero_le hx
  obtain⟨Y,rfl⟩:=Int.eq_ofNat_of_zero_le hy
  obtain⟨C,rfl⟩:=Int.eq_ofNat_of_zero_le hc0
  rw [run_callFunc_extern Tryz.func248 (by kernel_rfl) (by kernel_rfl) (by kernel_rfl) (by kernel_rfl),run_sub64 X Y C (by omega)]
  have e1:(((X+18446744073709551616-Y-C)%18446744073709551616:Nat):Int)=((X:Int)-Y-C)%18446744073709551616:=by omega
  have e2:((if X<Y+C then 1 else 0:Nat):Int)=if(X:Int)<Y+C then 1 else 0:=by split<;>split<;>omega
  rw [e1,e2]
  rfl
 ·exact Or.inr hym
theorem D1M (k:Nat):B5 Tryz.prog (C7B (d5 k)):=by
 rintro⟨⟨x,y,c,⟨⟩⟩,⟨⟩⟩ o h v hv
 replace h:All.bits_Sub64.f x y c=some o:=h
 cases hv
 unfold All.bits_Sub64.f at h
 split at h
 ·rename_i hc
  cases h
  refine D1R fun w=>Or.inr ⟨_,w,?_,rfl,fun bl φ=>⟨_,rfl, .cons (E3.2 rfl) (.cons (E3.2 rfl) .nil)⟩⟩
  exact(E5U x y c hc.1 hc.2.1 hc.2.2.2.1 hc.2.2.2.2 w).resolve_right fun h=>h hc.2.2.1
 ·cases h
theorem F4c (k:Nat):B5 Tryz.prog (D1d (B3z k)):=by
 rintro⟨⟨x,⟨⟩⟩,⟨⟩⟩ o h v hv
 replace h:All.bits_Len64.f x=some o:=h
 cases hv
 unfold All.bits_Len64.f at h
 split at h
 ·rename_i hc
  cases h
  refine E6o fun w=>E6L (c:=D6u.cd) Tryz.func297 (by kernel_rfl) (by kernel_rfl) ((Go.Proofs.YtijohnkgomcdbaaGreatX.len64_says x w hc.1 hc.2).mono ?_)
  rintro e w' ⟨rfl,rfl⟩
  exact⟨_,rfl,rfl,fun bl φ=>E3.2 rfl⟩
 ·cases h
theorem C3N {l:List Int} {x:Int} (h0:0≤x) (h1:x≤l.length):(((l.take x.toNat).length:Int),l.take x.toNat++l.drop (l.take x.toNat).length)=(x,l):=by
 have e:(l.take x.toNat).length=x.toNat:=by rw [List.length_take];omega
 rw [e,List.take_append_drop,Int.toNat_of_nonneg h0]
theorem B8t:∀(k:Nat) (l:List Int),All.galoisref01_trimV.f k l=All.galoisref01_trim.f k l
 |0,l=>rfl
 |k+1,l=>by
  have ih:=B8t k
  show All.galoisref01_trimV.l0 (k+1) l=All.galoisref01_trim.l0 (k+1) l
  rw [All.galoisref01_trimV.l0,All.galoisref01_trim.l0]
  have ih':∀l,All.galoisref01_trimV.l0 k l=All.galoisref01_trim.l0 k l:=ih
  simp only [ih']
noncomputable abbrev A7o (k:Nat) (x3:Int) (y0:List Int):Option m6:=(All.exact_trim.l0 k y0 x3).bind fun r=>some ((r.length:Int),r++y0.drop r.length)
theorem E8Y (k:Nat) (x3:Int) (y0:List Int):A0 (A7o (k+1) x3 y0) (C7f (A7o k) x3 y0):=by
 unfold A7o
 rw [All.exact_trim.l0]
 unfold C7f
 simp only [W9,F3,Option.bind_none]
 repeat' first
 | (with_reducible exact A0.none _)
 | (with_reducible exact A0.refl _)
 | (with_reducible refine A0.posR (by with_reducible assumption) ?_)
 | (with_reducible refine A0.negR (by with_reducible assumption) ?_)
 | (with_reducible refine A0.iteL (fun _=>?_) (fun _=>?_))
 | (refine A0.posR (by first|decide|exact Int.le_refl _|omega) ?_)
 | (rw [C3N (by assumption) (by assumption)])
theorem E5j (k:Nat) (y0:List Int):A0 (M1 k y0) (D1k (A7o k) y0):=A0.refl _
noncomputable abbrev A6E (k:Nat) (x0:Int) (y0:List Int):Option A0j:=if 0≤x0∧x0≤y0.length then(All.galoisref01_trim.l0 k (y0.take x0.toNat)).bind fun r=>some ((r.length:Int),r++y0.drop r.length)else none
theorem B0Z {l:List Int} {x i:Int} (h0:0≤i) (h:i<x):rd (l.take x.toNat) i=rd l i:=by
 unfold rd
 rw [List.getD_eq_getElem?_getD,List.getD_eq_getElem?_getD,List.getElem?_take_of_lt (by omega)]
theorem E1F (k:Nat) (x0:Int) (y0:List Int):A0 (A6E (k+1) x0 y0) (C6U (A6E k) x0 y0):=by
 unfold A6E
 refine A0.iteL (fun hx=>?_) (fun _=>A0.none _)
 have e:(((y0.take x0.toNat).length:Nat):Int)=x0:=by rw [List.length_take];omega
 rw [All.galoisref01_trim.l0]
 unfold C6U
 simp only [W9,F3,Option.bind_none,e,Int.sub_zero,Int.zero_add]
 refine A0.iteL (fun h1=>A0.posR h1 ?_) (fun h1=>A0.negR h1 ?_)
 ·refine A0.iteL (fun h2=>A0.posR h2 ?_) (fun _=>A0.none _)
  refine A0.iteL (fun h3=>A0.posR h3 ?_) (fun _=>A0.none _)
  rw [B0Z h2 h3]
  refine A0.iteL (fun h4=>A0.posR h4 ?_) (fun h4=>A0.negR h4 ?_)
  ·refine A0.iteL (fun h5=>?_) (fun _=>A0.none _)
   refine A0.posR (Int.le_refl _) (A0.posR h2 (A0.posR h5 (A0.posR (Int.le_refl _) (A0.posR ⟨h2,by omega⟩ ?_))))
   rw [List.take_take,Nat.min_eq_left (by omega)]
   exact A0.refl _
  ·have e2:=C3N hx.1 hx.2;rw [e]at e2;rw [e2];exact A0.refl _
 ·have e2:=C3N hx.1 hx.2;rw [e]at e2;rw [e2];exact A0.refl _
theorem E7J (k:Nat) (y0:List Int):A0 (f8 k y0) (C7p (A6E k) y0):=by
 unfold f8 C7p A6E
 refine A0.posR ⟨by omega,Int.le_refl _⟩ ?_
 rw [Int.toNat_natCast,List.take_length]
 exact A0.refl _
noncomputable abbrev A6g (k:Nat) (x0:Int) (x1:List Int) (x5:Int) (y0:List Int):Option A2U:=if 0≤x0∧x0≤y0.length then(All.galoisref01_below.l0 k (y0.take x0.toNat) x1 x5).bind fun r=>some (r,y0)else none
theorem F8D (k:Nat) (x0:Int) (x1:List Int) (x5:Int) (y0:List Int):A0 (A6g (k+1) x0 x1 x5 y0) (C8z (A6g k) x0 x1 x5 y0):=by
 unfold A6g
 refine A0.iteL (fun hx=>?_) (fun _=>A0.none _)
 have e:(((y0.take x0.toNat).length:Nat):Int)=x0:=by rw [List.length_take];omega
 rw [All.galoisref01_below.l0]
 unfold C8z
 simp only [W9,F3,Option.bind_none,e,Int.sub_zero,Int.zero_add,ite_not,ne_eq]
 refine A0.iteL (fun h1=>A0.posR h1 ?_) (fun h1=>A0.negR h1 (A0.refl _))
 refine A0.iteL (fun h2=>A0.posR h2 ?_) (fun _=>A0.none _)
 refine A0.iteL (fun h3=>A0.posR h3 (A0.posR h2 ?_)) (fun _=>A0.none _)
 refine A0.iteL (fun h4=>A0.posR h4 ?_) (fun _=>A0.none _)
 rw [B0Z h2 h3]
 refine A0.iteL (fun h5=>A0.posR h5 (A0.posR hx (A0.refl _))) (fun h5=>A0.negR h5 ?_)
 exact A0.posR h2 (A0.posR h3 (A0.posR h2 (A0.posR h4 (A0.refl _))))
theorem D4Q:∀(k:Nat) (l r:List Int),All.galoisref01_trim.l0 k l=some r→r++l.drop r.length=l
 |0,l,r,h=>by cases h
 |k+1,l,r,h=>by
  rw [All.galoisref01_trim.l0]at h
  split at h
  ·split at h
   ·split at h
    ·split at h
     ·split at h
      ·rename_i h1 _ _ h2
       have ih:=D4Q k _ _ h
       have hl:r.length≤(l.take (wrap64 ((l.length:Int)-1)).toNat).length:=by
        have:=congrArg List.length ih
        rw [List.length_append]at this
        omega
       have e:l=l.take (wrap64 ((l.length:Int)-1)).toNat++l.drop (wrap64 ((l.length:Int)-1)).toNat:=(List.take_append_drop _ _).symm
       rw [e,List.drop_append_of_le_length hl,←List.append_assoc]
       rw [ih]
      ·cases h
     ·cases h;rw [List.drop_length,List.append_nil]
    ·cases h
   ·cases h
  ·cases h;rw [List.drop_length,List.append_nil]
theorem F0E (k:Nat) (x1:List Int) (y0:List Int):A0 (u9 k x1 y0) (C4Q (A6g k) (f8 k) x1 y0):=by
 unfold u9 C4Q f8 A6g All.galoisref01_below.f
 simp only [B8t,i9,F3,W9,Int.sub_zero,ite_not,ne_eq]
 refine A0.bindL fun r hr=>A0.bindR hr ?_
 have e:=D4Q k y0 r hr
 have hl:(r.length:Int)≤y0.length:=by
  have:=congrArg List.length e
  rw [List.length_append]at this
  omega
 have et:y0.take r.length=r:=by
  have:=congrArg (List.take r.length) e
  rwa [List.take_left,eq_comm]at this
 rw [e]
 refine A0.iteL (fun h1=>A0.posR h1 (A0.posR ⟨by omega,hl⟩ ?_)) (fun h1=>A0.negR h1 (A0.refl _))
 rw [Int.toNat_natCast,et]
 exact A0.refl _
end Go.Proofs.YtijohnkgomcdbaaGreatV
namespace Go.Proofs.YtijohnkgomcdbaaGreatV
end Go.Proofs.YtijohnkgomcdbaaGreatV
set_option maxRecDepth 100000
namespace Go.Proofs.YtijohnkgomcdbaaGreatV
open Go Go.RowKit YtijohnkgomcdbaaGreat YtijohnkgomcdbaaGreatE YtijohnkgomcdbaaGreatW.PrintWords YtijohnkgomcdbaaGreatW.PrintLast YtijohnkgomcdbaaGreatW.PrintMore
theorem b15 (k:Nat) (x0:(List TQ)):A0 (S6 k x0) (B15 x0):=A0.refl _
theorem D0D (k:Nat):B5 Tryz.prog (C0F (S6 k)):=
 B6 B7 HM D15 (es:=fun k=>[]) (fun k=>fz) Tryz.func15 0 (by kernel_rfl) (fun s=>rfl) (fun k=>[]) (fz) (fun k s0=> .nil) (F:=fun k s=>S6 k s.1.1) (fun k s r h=>(e15 s).trans (b15 k s.1.1 r h)) k
theorem D9f (k:Nat) (x0:TI):A0 (A5V k x0) (C3S x0):=by
 show A0 (All.galoisref02_Sign.f x0.1 x0.2) _
 unfold All.galoisref02_Sign.f;unfold C3S;(try simp only [All.integer_zero.f,All.exact_stepAt.f,All.S24.f0,All.S24.f1,All.rd_T24,All.z24]);exact BR
theorem E9l (k:Nat):B5 Tryz.prog (D2A (A5V k)):=
 B6 B7 HM C0k (es:=fun k=>[]) (fun k=>fz) Tryz.func173 0 (by kernel_rfl) (fun s=>rfl) (fun k=>[]) (fz) (fun k s0=> .nil) (F:=fun k s=>A5V k s.1.1) (fun k s r h=>(E5v s).trans (D9f k s.1.1 r h)) k
theorem E9Y (k:Nat) (x0:TQ):A0 (Q5 k x0) (B4S (A5V k) x0):=A0.refl _
theorem D7l (k:Nat):B5 Tryz.prog (C1u (Q5 k)):=
 B6 B7 HM C0T (es:=fun k=>D2V (A5V k)) (fun k=>fc ⟨E9l k,fz⟩) Tryz.func123 0 (by kernel_rfl) (fun s=>rfl) (fun k=>[]) (fz) (fun k s0=> .nil) (F:=fun k s=>Q5 k s.1.1) (fun k s r h=>(E7g (A5V k) s).trans (E9Y k s.1.1 r h)) k
theorem E4B (k:Nat) (x0:ByteArray):A0 (d7 k x0) (C1T x0):=by
 show A0 (All.galoisref01_Valid.f x0) _
 unfold All.galoisref01_Valid.f;unfold C1T;(try simp only [All.integer_zero.f,All.exact_stepAt.f,All.S24.f0,All.S24.f1,All.rd_T24,All.z24]);exact BR
theorem D2M (k:Nat):B5 Tryz.prog (C1D (d7 k)):=
 B6 B7 HM B9d (es:=fun k=>[]) (fun k=>fz) Tryz.func178 0 (by kernel_rfl) (fun s=>rfl) (fun k=>[]) (fz) (fun k s0=> .nil) (F:=fun k s=>d7 k s.1.1) (fun k s r h=>(E8l s).trans (E4B k s.1.1 r h)) k
theorem F6L (k:Nat) (x0:TI):A0 (A0I k x0) (C3s (d7 k) x0):=by
 show A0 (All.galoisref02_Valid.f x0.1 x0.2) _
 unfold All.galoisref02_Valid.f;unfold C3s;(try simp only [d7,All.integer_zero.f,All.exact_stepAt.f,All.S24.f0,All.S24.f1,All.rd_T24,All.z24]);exact BR
theorem F2V (k:Nat):B5 Tryz.prog (D4w (A0I k)):=
 B6 B7 HM B9f (es:=fun k=>D7j (d7 k)) (fun k=>fc ⟨D2M k,fz⟩) Tryz.func177 0 (by kernel_rfl) (fun s=>rfl) (fun k=>[]) (fz) (fun k s0=> .nil) (F:=fun k s=>A0I k s.1.1) (fun k s r h=>(F7p (d7 k) s).trans (F6L k s.1.1 r h)) k
theorem E3g (k:Nat) (x0:ByteArray):A0 (v8 k x0) (C9C x0):=by
 show A0 (All.galoisref01_Fits.f x0) _
 unfold All.galoisref01_Fits.f;unfold C9C;(try simp only [All.integer_zero.f,All.exact_stepAt.f,All.S24.f0,All.S24.f1,All.rd_T24,All.z24]);exact BR
theorem D3X (k:Nat):B5 Tryz.prog (C3z (v8 k)):=
 B6 B7 HM B6C (es:=fun k=>[]) (fun k=>fz) Tryz.func218 0 (by kernel_rfl) (fun s=>rfl) (fun k=>[]) (fz) (fun k s0=> .nil) (F:=fun k s=>v8 k s.1.1) (fun k s r h=>(F5Z s).trans (E3g k s.1.1 r h)) k
theorem F3S (k:Nat) (x0:TI):A0 (A3O k x0) (C6g (v8 k) x0):=by
 show A0 (All.galoisref02_Fits.f x0.1 x0.2) _
 unfold All.galoisref02_Fits.f;unfold C6g;(try simp only [v8,All.integer_zero.f,All.exact_stepAt.f,All.S24.f0,All.S24.f1,All.rd_T24,All.z24]);exact BR
theorem F1l (k:Nat):B5 Tryz.prog (D9F (A3O k)):=
 B6 B7 HM B9y (es:=fun k=>D5L (v8 k)) (fun k=>fc ⟨D3X k,fz⟩) Tryz.func217 0 (by kernel_rfl) (fun s=>rfl) (fun k=>[]) (fz) (fun k s0=> .nil) (F:=fun k s=>A3O k s.1.1) (fun k s r h=>(E6P (v8 k) s).trans (F3S k s.1.1 r h)) k
theorem F1s (k:Nat) (x0:TQ):A0 (b9 k x0) (B0d (A3O k) (v8 k) x0):=A0.refl _
theorem F3E (k:Nat):B5 Tryz.prog (D8P (b9 k)):=
 B6 B7 HM B7e (es:=fun k=>D8R (A3O k) (v8 k)) (fun k=>fc ⟨F1l k,fc ⟨D3X k,fz⟩⟩) Tryz.func179 0 (by kernel_rfl) (fun s=>rfl) (fun k=>[]) (fz) (fun k s0=> .nil) (F:=fun k s=>b9 k s.1.1) (fun k s r h=>(F4F (A3O k) (v8 k) s).trans (F1s k s.1.1 r h)) k
noncomputable abbrev A4o (k:Nat) (x0:(List Int)) (x4:Int) (x3:(List Int)):Option Q8:=All.galoisref01_pack.l0 k x0 x3 x4
noncomputable abbrev A4p (k:Nat) (x0:(List Int)) (x4:Int) (x5:Int) (x3:(List Int)):Option Q8:=All.galoisref01_pack.l1 k x0 x3 x4 x5
theorem E1o (k:Nat) (x0:(List Int)) (x4:Int) (x3:(List Int)):A0 (All.galoisref01_pack.l0 (k+1) x0 x3 x4) (C1y (A4p k) x0 x4 x3):=by rw [All.galoisref01_pack.l0];unfold C1y;(try simp only [A4o,A4p,All.integer_zero.f,All.exact_stepAt.f,All.S24.f0,All.S24.f1,All.rd_T24,All.z24]);exact BR
theorem E4S (k:Nat) (x0:(List Int)) (x4:Int) (x5:Int) (x3:(List Int)):A0 (All.galoisref01_pack.l1 (k+1) x0 x3 x4 x5) (C1q (A4o k) (A4p k) x0 x4 x5 x3):=by rw [All.galoisref01_pack.l1];unfold C1q;(try simp only [A4o,A4p,All.integer_zero.f,All.exact_stepAt.f,All.S24.f0,All.S24.f1,All.rd_T24,All.z24]);exact BR
theorem F5x (k:Nat) (x0:(List Int)):A0 (I2 k x0) (D0U (A4o k) x0):=by
 show A0 (All.galoisref01_pack.f k x0) _
 unfold All.galoisref01_pack.f;unfold D0U;(try simp only [A4o,A4p,All.integer_zero.f,All.exact_stepAt.f,All.S24.f0,All.S24.f1,All.rd_T24,All.z24]);exact BR
theorem B5R (k:Nat):B5 Tryz.prog (A9e (I2 k)):=
 B6 B7 HM A6u (es:=fun k=>[]) (fun k=>fz) Tryz.func221 2 (by kernel_rfl) (fun s=>rfl) (fun k=>B7S (A4o k) (A4p k)) (fc ⟨fun s=>rfl,fc ⟨fun s=>rfl,fz⟩⟩) (fun k s0=> .cons (by kernel_rfl) (by kernel_rfl) (fun s r h=>(E0M (A4o k) (A4p k) s0 s).trans (E1o k s.1.1 s.1.2.1 s.2.1 r h)) (.cons (by kernel_rfl) (by kernel_rfl) (fun s r h=>(E5y (A4o k) (A4p k) s0 s).trans (E4S k s.1.1 s.1.2.1 s.1.2.2.1 s.2.1 r h)) (.nil))) (F:=fun k s=>I2 k s.1.1) (fun k s r h=>(E7E (A4o k) (A4p k) s).trans (F5x k s.1.1 r h)) k
theorem D4E (k:Nat):B5 Tryz.prog (C3o (f8 k)):=
 B6 B7 HM B2O (es:=fun k=>[]) (fun k=>fz) Tryz.func249 1 (by kernel_rfl) (fun s=>rfl) (fun k=>C3m (A6E k)) (fc ⟨fun s=>by show ite _ _ _=none;split<;>rfl,fz⟩) (fun k s0=> .cons (by kernel_rfl) (by kernel_rfl) (fun s r h=>(F0K (A6E k) s0 s).trans (E1F k s.1.1 s.2.1 r h)) (.nil)) (F:=fun k s=>f8 k s.2.1) (fun k s r h=>(E1P (A6E k) s).trans (E7J k s.2.1 r h)) k
noncomputable abbrev A5L (k:Nat) (x0:ByteArray) (x4:Int) (x3:(List Int)):Option T4:=All.galoisref01_limbs.l0 k x0 x3 x4
noncomputable abbrev A4W (k:Nat) (x0:ByteArray) (x4:Int) (x5:Int) (x6:Int) (x3:(List Int)):Option T4:=All.galoisref01_limbs.l1 k x0 x3 x4 x5 x6
theorem F6M (k:Nat) (x0:ByteArray) (x4:Int) (x3:(List Int)):A0 (All.galoisref01_limbs.l0 (k+1) x0 x3 x4) (D0R (A4W k) (f8 k) x0 x4 x3):=by rw [All.galoisref01_limbs.l0];unfold D0R;(try simp only [A5L,A4W,f8,All.integer_zero.f,All.exact_stepAt.f,All.S24.f0,All.S24.f1,All.rd_T24,All.z24]);exact BR
theorem F7u (k:Nat) (x0:ByteArray) (x4:Int) (x5:Int) (x6:Int) (x3:(List Int)):A0 (All.galoisref01_limbs.l1 (k+1) x0 x3 x4 x5 x6) (C9J (A5L k) (A4W k) x0 x4 x5 x6 x3):=by rw [All.galoisref01_limbs.l1];unfold C9J;(try simp only [A5L,A4W,f8,All.integer_zero.f,All.exact_stepAt.f,All.S24.f0,All.S24.f1,All.rd_T24,All.z24]);exact BR
theorem F5g (k:Nat) (x0:ByteArray):A0 (J8 k x0) (D0i (A5L k) x0):=by
 show A0 (All.galoisref01_limbs.f k x0) _
 unfold All.galoisref01_limbs.f;unfold D0i;(try simp only [A5L,A4W,f8,All.integer_zero.f,All.exact_stepAt.f,All.S24.f0,All.S24.f1,All.rd_T24,All.z24]);exact BR
theorem B8g (k:Nat):B5 Tryz.prog (B3a (J8 k)):=
 B6 B7 HM A6b (es:=fun k=>B7T (f8 k)) (fun k=>fc ⟨D4E k,fz⟩) Tryz.func229 2 (by kernel_rfl) (fun s=>rfl) (fun k=>C0g (A5L k) (A4W k)) (fc ⟨fun s=>rfl,fc ⟨fun s=>rfl,fz⟩⟩) (fun k s0=> .cons (by kernel_rfl) (by kernel_rfl) (fun s r h=>(F5T (A5L k) (A4W k) (f8 k) s0 s).trans (F6M k s.1.1 s.1.2.1 s.2.1 r h)) (.cons (by kernel_rfl) (by kernel_rfl) (fun s r h=>(E4Q (A5L k) (A4W k) (f8 k) s0 s).trans (F7u k s.1.1 s.1.2.1 s.1.2.2.1 s.1.2.2.2.1 s.2.1 r h)) (.nil))) (F:=fun k s=>J8 k s.1.1) (fun k s r h=>(E4z (A5L k) (A4W k) (f8 k) s).trans (F5g k s.1.1 r h)) k
theorem E4X (k:Nat):B5 Tryz.prog (D9L (u9 k)):=
 B6 B7 HM B1L (es:=fun k=>D0I (f8 k)) (fun k=>fc ⟨D4E k,fz⟩) Tryz.func230 1 (by kernel_rfl) (fun s=>rfl) (fun k=>C1f (A6g k)) (fc ⟨fun s=>by show ite _ _ _=none;split<;>rfl,fz⟩) (fun k s0=> .cons (by kernel_rfl) (by kernel_rfl) (fun s r h=>(E1E (A6g k) (f8 k) s0 s).trans (F8D k s.1.1 s.1.2.1 s.1.2.2.1 s.2.1 r h)) (.nil)) (F:=fun k s=>u9 k s.1.1 s.2.1) (fun k s r h=>(E7W (A6g k) (f8 k) s).trans (F0E k s.1.1 s.2.1 r h)) k
noncomputable abbrev A1s (k:Nat) (x7:(List Int)) (x8:Int) (x11:Int) (x9:(List Int)) (x10:(List Int)):Option T5:=All.galoisref01_DivMod.l0 k x7 x8 x9 x10 x11
noncomputable abbrev A2j (k:Nat) (x7:(List Int)) (x8:Int) (x11:Int) (x9:(List Int)) (x10:(List Int)):Option T5:=All.galoisref01_DivMod.l1 k x7 x8 x9 x10 x11
noncomputable abbrev A2f (k:Nat) (x7:(List Int)) (x8:Int) (x11:Int) (x12:Int) (x13:Int) (x14:Int) (x9:(List Int)) (x10:(List Int)):Option T5:=All.galoisref01_DivMod.l2 k x7 x8 x9 x10 x11 x12 x13 x14
theorem F5b (k:Nat) (x7:(List Int)) (x8:Int) (x11:Int) (x9:(List Int)) (x10:(List Int)):A0 (All.galoisref01_DivMod.l0 (k+1) x7 x8 x9 x10 x11) (C8e (A2j k) (I2 k) x7 x8 x11 x9 x10):=by rw [All.galoisref01_DivMod.l0];unfold C8e;(try simp only [A1s,A2j,A2f,I2,J8,u9,All.integer_zero.f,All.exact_stepAt.f,All.S24.f0,All.S24.f1,All.rd_T24,All.z24]);exact BR
theorem E9A (k:Nat) (x7:(List Int)) (x8:Int) (x11:Int) (x9:(List Int)) (x10:(List Int)):A0 (All.galoisref01_DivMod.l1 (k+1) x7 x8 x9 x10 x11) (C5X (A1s k) (A2f k) (u9 k) x7 x8 x11 x9 x10):=by rw [All.galoisref01_DivMod.l1];unfold C5X;(try simp only [A1s,A2j,A2f,I2,J8,u9,All.integer_zero.f,All.exact_stepAt.f,All.S24.f0,All.S24.f1,All.rd_T24,All.z24]);exact BR
theorem F0N (k:Nat) (x7:(List Int)) (x8:Int) (x11:Int) (x12:Int) (x13:Int) (x14:Int) (x9:(List Int)) (x10:(List Int)):A0 (All.galoisref01_DivMod.l2 (k+1) x7 x8 x9 x10 x11 x12 x13 x14) (C7W (A2j k) (A2f k) x7 x8 x11 x12 x13 x14 x9 x10):=by rw [All.galoisref01_DivMod.l2];unfold C7W;(try simp only [A1s,A2j,A2f,I2,J8,u9,All.integer_zero.f,All.exact_stepAt.f,All.S24.f0,All.S24.f1,All.rd_T24,All.z24]);exact BR
theorem F4C (k:Nat) (x0:ByteArray) (x1:ByteArray):A0 (v9 k x0 x1) (C7v (A1s k) (J8 k) x0 x1):=by
 show A0 (All.galoisref01_DivMod.f k x0 x1) _
 unfold All.galoisref01_DivMod.f;unfold C7v;(try simp only [A1s,A2j,A2f,I2,J8,u9,All.integer_zero.f,All.exact_stepAt.f,All.S24.f0,All.S24.f1,All.rd_T24,All.z24]);exact BR
theorem D8B (k:Nat):B5 Tryz.prog (C9i (v9 k)):=
 B6 B7 HM A4D (es:=fun k=>B5I (I2 k) (J8 k) (u9 k)) (fun k=>fc ⟨B5R k,fc ⟨B8g k,fc ⟨E4X k,fz⟩⟩⟩) Tryz.func203 3 (by kernel_rfl) (fun s=>rfl) (fun k=>B5Y (A1s k) (A2j k) (A2f k)) (fc ⟨fun s=>rfl,fc ⟨fun s=>rfl,fc ⟨fun s=>rfl,fz⟩⟩⟩) (fun k s0=> .cons (by kernel_rfl) (by kernel_rfl) (fun s r h=>(E9C (A1s k) (A2j k) (A2f k) (I2 k) (J8 k) (u9 k) s0 s).trans (F5b k s.1.1 s.1.2.1 s.1.2.2.1 s.2.1 s.2.2.1 r h)) (.cons (by kernel_rfl) (by kernel_rfl) (fun s r h=>(E3E (A1s k) (A2j k) (A2f k) (I2 k) (J8 k) (u9 k) s0 s).trans (E9A k s.1.1 s.1.2.1 s.1.2.2.1 s.2.1 s.2.2.1 r h)) (.cons (by kernel_rfl) (by kernel_rfl) (fun s r h=>(E9U (A1s k) (A2j k) (A2f k) (I2 k) (J8 k) (u9 k) s0 s).trans (F0N k s.1.1 s.1.2.1 s.1.2.2.1 s.1.2.2.2.1 s.1.2.2.2.2.1 s.1.2.2.2.2.2.1 s.2.1 s.2.2.1 r h)) (.nil)))) (F:=fun k s=>v9 k s.1.1 s.1.2.1) (fun k s r h=>(E6t (A1s k) (A2j k) (A2f k) (I2 k) (J8 k) (u9 k) s).trans (F4C k s.1.1 s.1.2.1 r h)) k
noncomputable abbrev A7y (k:Nat) (x0:ByteArray) (x1:ByteArray):Option A0H:=All.galoisref01_Gcd.l0 k x0 x1
theorem E2n (k:Nat) (x0:ByteArray) (x1:ByteArray):A0 (All.galoisref01_Gcd.l0 (k+1) x0 x1) (C4D (A7y k) (v9 k) x0 x1):=by rw [All.galoisref01_Gcd.l0];unfold C4D;(try simp only [A7y,v9,All.integer_zero.f,All.exact_stepAt.f,All.S24.f0,All.S24.f1,All.rd_T24,All.z24]);exact BR
theorem E2d (k:Nat) (x0:ByteArray) (x1:ByteArray):A0 (Y5 k x0 x1) (C8L (A7y k) x0 x1):=by
 show A0 (All.galoisref01_Gcd.f k x0 x1) _
 unfold All.galoisref01_Gcd.f;unfold C8L;(try simp only [A7y,v9,All.integer_zero.f,All.exact_stepAt.f,All.S24.f0,All.S24.f1,All.rd_T24,All.z24]);exact BR
theorem D2D (k:Nat):B5 Tryz.prog (C1t (Y5 k)):=
 B6 B7 HM B2Q (es:=fun k=>C8s (v9 k)) (fun k=>fc ⟨D8B k,fz⟩) Tryz.func180 1 (by kernel_rfl) (fun s=>rfl) (fun k=>C3k (A7y k)) (fc ⟨fun s=>rfl,fz⟩) (fun k s0=> .cons (by kernel_rfl) (by kernel_rfl) (fun s r h=>(E5G (A7y k) (v9 k) s0 s).trans (E2n k s.1.1 s.1.2.1 r h)) (.nil)) (F:=fun k s=>Y5 k s.1.1 s.1.2.1) (fun k s r h=>(E1p (A7y k) (v9 k) s).trans (E2d k s.1.1 s.1.2.1 r h)) k
theorem E6m (k:Nat) (x0:TQ):A0 (L7 k x0) (A4X (A0I k) (d7 k) (b9 k) (Y5 k) x0):=A0.refl _
theorem D2m (k:Nat):B5 Tryz.prog (C8E (L7 k)):=
 B6 B7 HM C0d (es:=fun k=>D8t (A0I k) (d7 k) (b9 k) (Y5 k)) (fun k=>fc ⟨F2V k,fc ⟨D2M k,fc ⟨F3E k,fc ⟨D2D k,fz⟩⟩⟩⟩) Tryz.func135 0 (by kernel_rfl) (fun s=>rfl) (fun k=>[]) (fz) (fun k s0=> .nil) (F:=fun k s=>L7 k s.1.1) (fun k s r h=>(F7r (A0I k) (d7 k) (b9 k) (Y5 k) s).trans (E6m k s.1.1 r h)) k
theorem E8W (k:Nat) (x0:(List TQ)) (x9:(List TQ)) (x10:Int) (x11:Int):A0 (A0E (k+1) x0 x9 x10 x11) (A9F (A0E k) (Q5 k) (L7 k) x0 x9 x10 x11):=by rw [A0E];exact A0.refl _
theorem b69 (k:Nat) (x0:(List TQ)):A0 (T7 k x0) (B69 (A0E k) x0):=A0.refl _
theorem C2E (k:Nat):B5 Tryz.prog (C0G (T7 k)):=
 B6 B7 HM D69 (es:=fun k=>C9s (Q5 k) (L7 k)) (fun k=>fc ⟨D7l k,fc ⟨D2m k,fz⟩⟩) Tryz.func69 1 (by kernel_rfl) (fun s=>rfl) (fun k=>C6R (A0E k)) (fc ⟨fun s=>rfl,fz⟩) (fun k s0=> .cons (by kernel_rfl) (by kernel_rfl) (fun s r h=>(E7C (A0E k) (Q5 k) (L7 k) s0 s).trans (E8W k s.1.1 s.1.2.1 s.1.2.2.1 s.1.2.2.2.1 r h)) (.nil)) (F:=fun k s=>T7 k s.1.1) (fun k s r h=>(e69 (A0E k) (Q5 k) (L7 k) s).trans (b69 k s.1.1 r h)) k
theorem E8z (k:Nat) (x0:Int):A0 (A7W k x0) (C4F (I2 k) x0):=by
 show A0 (All.galoisref01_Of.f k x0) _
 unfold All.galoisref01_Of.f;unfold C4F;(try simp only [I2,All.integer_zero.f,All.exact_stepAt.f,All.S24.f0,All.S24.f1,All.rd_T24,All.z24]);exact BR
theorem F4Y (k:Nat):B5 Tryz.prog (D1j (A7W k)):=
 B6 B7 HM B8E (es:=fun k=>D6G (I2 k)) (fun k=>fc ⟨B5R k,fz⟩) Tryz.func183 0 (by kernel_rfl) (fun s=>rfl) (fun k=>[]) (fz) (fun k s0=> .nil) (F:=fun k s=>A7W k s.1.1) (fun k s r h=>(E6F (I2 k) s).trans (E8z k s.1.1 r h)) k
theorem F5c (k:Nat) (x0:Int):A0 (A5g k x0) (C5Z (A7W k) x0):=by
 show A0 (All.galoisref02_FromInt.f k x0) _
 unfold All.galoisref02_FromInt.f;unfold C5Z;(try simp only [A7W,All.integer_zero.f,All.exact_stepAt.f,All.S24.f0,All.S24.f1,All.rd_T24,All.z24]);exact BR
theorem F0d (k:Nat):B5 Tryz.prog (D2q (A5g k)):=
 B6 B7 HM B6W (es:=fun k=>D1L (A7W k)) (fun k=>fc ⟨F4Y k,fz⟩) Tryz.func141 0 (by kernel_rfl) (fun s=>rfl) (fun k=>[]) (fz) (fun k s0=> .nil) (F:=fun k s=>A5g k s.1.1) (fun k s r h=>(F5J (A7W k) s).trans (F5c k s.1.1 r h)) k
theorem b81 (k:Nat) (x0:Int):A0 (E6 k x0) (B81 (A5g k) x0):=A0.refl _
theorem A7C (k:Nat):B5 Tryz.prog (A6D (E6 k)):=
 B6 B7 HM D81 (es:=fun k=>D1P (A5g k)) (fun k=>fc ⟨F0d k,fz⟩) Tryz.func81 0 (by kernel_rfl) (fun s=>rfl) (fun k=>[]) (fz) (fun k s0=> .nil) (F:=fun k s=>E6 k s.1.1) (fun k s r h=>(e81 (A5g k) s).trans (b81 k s.1.1 r h)) k
theorem b80 (k:Nat) (x0:(List TQ)):A0 (Z0 k x0) (B80 (E6 k) x0):=A0.refl _
theorem D1l (k:Nat):B5 Tryz.prog (C7C (Z0 k)):=
 B6 B7 HM D80 (es:=fun k=>D3c (E6 k)) (fun k=>fc ⟨A7C k,fz⟩) Tryz.func80 0 (by kernel_rfl) (fun s=>rfl) (fun k=>[]) (fz) (fun k s0=> .nil) (F:=fun k s=>Z0 k s.1.1) (fun k s r h=>(e80 (E6 k) s).trans (b80 k s.1.1 r h)) k
theorem b82 (k:Nat) (x0:TQ):A0 (A1e k x0) (B82 x0):=A0.refl _
theorem E0i (k:Nat):B5 Tryz.prog (D6N (A1e k)):=
 B6 B7 HM D82 (es:=fun k=>[]) (fun k=>fz) Tryz.func82 0 (by kernel_rfl) (fun s=>rfl) (fun k=>[]) (fz) (fun k s0=> .nil) (F:=fun k s=>A1e k s.1.1) (fun k s r h=>(e82 s).trans (b82 k s.1.1 r h)) k
theorem E8v (k:Nat) (x24:(List TQ)) (x25:Int) (x26:Int) (x1:(List TQ)):A0 (A0t (k+1) x24 x25 x26 x1) (A6w (A0t k) (S6 k) (A1e k) x24 x25 x26 x1):=by rw [A0t];exact A0.refl _
theorem b13 (k:Nat) (x0:(List TQ)):A0 (K0 k x0) (B13 (A0t k) (T7 k) (Z0 k) (E6 k) x0):=A0.refl _
theorem B4i (k:Nat):B5 Tryz.prog (B2P (K0 k)):=
 B6 B7 HM D13 (es:=fun k=>C5V (S6 k) (T7 k) (Z0 k) (E6 k) (A1e k)) (fun k=>fc ⟨D0D k,fc ⟨C2E k,fc ⟨D1l k,fc ⟨A7C k,fc ⟨E0i k,fz⟩⟩⟩⟩⟩) Tryz.func13 1 (by kernel_rfl) (fun s=>rfl) (fun k=>C2S (A0t k)) (fc ⟨fun s=>rfl,fz⟩) (fun k s0=> .cons (by kernel_rfl) (by kernel_rfl) (fun s r h=>(F2I (A0t k) (S6 k) (T7 k) (Z0 k) (E6 k) (A1e k) s0 s).trans (E8v k s.1.1 s.1.2.1 s.1.2.2.1 s.2.1 r h)) (.nil)) (F:=fun k s=>K0 k s.1.1) (fun k s r h=>(e13 (A0t k) (S6 k) (T7 k) (Z0 k) (E6 k) (A1e k) s).trans (b13 k s.1.1 r h)) k
theorem b55 (k:Nat) (x0:(List TQ)) (x1:(List TQ)):A0 (A2W k x0 x1) (B55 (K0 k) (S6 k) (T7 k) x0 x1):=A0.refl _
theorem F5R (k:Nat):B5 Tryz.prog (D3R (A2W k)):=
 B6 B7 HM D55 (es:=fun k=>D3q (K0 k) (S6 k) (T7 k)) (fun k=>fc ⟨B4i k,fc ⟨D0D k,fc ⟨C2E k,fz⟩⟩⟩) Tryz.func55 0 (by kernel_rfl) (fun s=>rfl) (fun k=>[]) (fz) (fun k s0=> .nil) (F:=fun k s=>A2W k s.1.1 s.1.2.1) (fun k s r h=>(e55 (K0 k) (S6 k) (T7 k) s).trans (b55 k s.1.1 s.1.2.1 r h)) k
theorem E5V (k:Nat) (x1:(List (List TQ))) (x16:(List (List TQ))) (x17:Int) (x18:Int) (x2:(List TQ)):A0 (A0e (k+1) x1 x16 x17 x18 x2) (A9Y (A0e k) (A2W k) x1 x16 x17 x18 x2):=by rw [A0e];exact A0.refl _
theorem b14 (k:Nat) (x0:(List TQ)) (x1:(List (List TQ))):A0 (S1 k x0 x1) (B14 (A0e k) (K0 k) x0 x1):=A0.refl _
theorem C3R (k:Nat):B5 Tryz.prog (B6Y (S1 k)):=
 B6 B7 HM D14 (es:=fun k=>C9w (K0 k) (A2W k)) (fun k=>fc ⟨B4i k,fc ⟨F5R k,fz⟩⟩) Tryz.func14 1 (by kernel_rfl) (fun s=>rfl) (fun k=>C5O (A0e k)) (fc ⟨fun s=>rfl,fz⟩) (fun k s0=> .cons (by kernel_rfl) (by kernel_rfl) (fun s r h=>(E3c (A0e k) (K0 k) (A2W k) s0 s).trans (E5V k s.1.1 s.1.2.1 s.1.2.2.1 s.1.2.2.2.1 s.2.1 r h)) (.nil)) (F:=fun k s=>S1 k s.1.1 s.1.2.1) (fun k s r h=>(e14 (A0e k) (K0 k) (A2W k) s).trans (b14 k s.1.1 s.1.2.1 r h)) k
theorem E8P (k:Nat) (x17:(List TQ)) (x18:Int) (x19:Int):A0 (A0X (k+1) x17 x18 x19) (A8K (A0X k) x17 x18 x19):=by rw [A0X];exact A0.refl _
theorem b70 (k:Nat) (x0:(List TQ)) (x1:Int):A0 (A5J k x0 x1) (B70 (A0X k) (T7 k) x0 x1):=A0.refl _
theorem E0w (k:Nat):B5 Tryz.prog (D5D (A5J k)):=
 B6 B7 HM D70 (es:=fun k=>C6w (T7 k)) (fun k=>fc ⟨C2E k,fz⟩) Tryz.func70 1 (by kernel_rfl) (fun s=>rfl) (fun k=>C3u (A0X k)) (fc ⟨fun s=>rfl,fz⟩) (fun k s0=> .cons (by kernel_rfl) (by kernel_rfl) (fun s r h=>(E9O (A0X k) (T7 k) s0 s).trans (E8P k s.1.1 s.1.2.1 s.1.2.2.1 r h)) (.nil)) (F:=fun k s=>A5J k s.1.1 s.1.2.1) (fun k s r h=>(e70 (A0X k) (T7 k) s).trans (b70 k s.1.1 s.1.2.1 r h)) k
theorem b49 (k:Nat) (x0:(List TQ)) (x1:(List TQ)):A0 (A2t k x0 x1) (B49 (K0 k) (S6 k) (A5J k) x0 x1):=A0.refl _
theorem F2L (k:Nat):B5 Tryz.prog (D4p (A2t k)):=
 B6 B7 HM D49 (es:=fun k=>D3V (K0 k) (S6 k) (A5J k)) (fun k=>fc ⟨B4i k,fc ⟨D0D k,fc ⟨E0w k,fz⟩⟩⟩) Tryz.func49 0 (by kernel_rfl) (fun s=>rfl) (fun k=>[]) (fz) (fun k s0=> .nil) (F:=fun k s=>A2t k s.1.1 s.1.2.1) (fun k s r h=>(e49 (K0 k) (S6 k) (A5J k) s).trans (b49 k s.1.1 s.1.2.1 r h)) k
theorem E8T (k:Nat) (x19:(List TQ)) (x20:Int) (x21:Int):A0 (A0h (k+1) x19 x20 x21) (A7T (A0h k) x19 x20 x21):=by rw [A0h];exact A0.refl _
theorem b79 (k:Nat) (x0:(List TQ)) (x1:Int):A0 (Z5 k x0 x1) (B79 (A0h k) (K0 k) x0 x1):=A0.refl _
theorem D9O (k:Nat):B5 Tryz.prog (C8q (Z5 k)):=
 B6 B7 HM D79 (es:=fun k=>C1r (K0 k)) (fun k=>fc ⟨B4i k,fz⟩) Tryz.func79 1 (by kernel_rfl) (fun s=>rfl) (fun k=>C5W (A0h k)) (fc ⟨fun s=>rfl,fz⟩) (fun k s0=> .cons (by kernel_rfl) (by kernel_rfl) (fun s r h=>(F4X (A0h k) (K0 k) s0 s).trans (E8T k s.1.1 s.1.2.1 s.1.2.2.1 r h)) (.nil)) (F:=fun k s=>Z5 k s.1.1 s.1.2.1) (fun k s r h=>(e79 (A0h k) (K0 k) s).trans (b79 k s.1.1 s.1.2.1 r h)) k
theorem F3p (k:Nat) (x28:(List (List TQ))) (x29:Int) (x30:Int) (x4:(List TQ)):A0 (z8 (k+1) x28 x29 x30 x4) (A8b (z8 k) (A2t k) x28 x29 x30 x4):=by rw [z8];exact A0.refl _
theorem b26 (k:Nat) (x0:(List TQ)) (x1:(List (List TQ))) (x2:Int) (x3:Int):A0 (A2h k x0 x1 x2 x3) (B26 (z8 k) (S1 k) (Z5 k) x0 x1 x2 x3):=A0.refl _
theorem F2B (k:Nat):B5 Tryz.prog (D7u (A2h k)):=
 B6 B7 HM D26 (es:=fun k=>C5D (S1 k) (A2t k) (Z5 k)) (fun k=>fc ⟨C3R k,fc ⟨F2L k,fc ⟨D9O k,fz⟩⟩⟩) Tryz.func26 1 (by kernel_rfl) (fun s=>rfl) (fun k=>C7h (z8 k)) (fc ⟨fun s=>rfl,fz⟩) (fun k s0=> .cons (by kernel_rfl) (by kernel_rfl) (fun s r h=>(F5u (z8 k) (S1 k) (A2t k) (Z5 k) s0 s).trans (F3p k s.1.1 s.1.2.1 s.1.2.2.1 s.2.1 r h)) (.nil)) (F:=fun k s=>A2h k s.1.1 s.1.2.1 s.1.2.2.1 s.1.2.2.2.1) (fun k s r h=>(e26 (z8 k) (S1 k) (A2t k) (Z5 k) s).trans (b26 k s.1.1 s.1.2.1 s.1.2.2.1 s.1.2.2.2.1 r h)) k
theorem F3z (k:Nat) (x10:(List (List (List TQ)))) (x11:Int) (x12:Int) (x2:(List TQ)):A0 (A0R (k+1) x10 x11 x12 x2) (A8t (A0R k) (S1 k) (A2h k) (Z5 k) x10 x11 x12 x2):=by rw [A0R];exact A0.refl _
theorem b12 (k:Nat) (x0:(List TQ)) (x1:(List (List (List TQ)))):A0 (A4I k x0 x1) (B12 (A0R k) (K0 k) x0 x1):=A0.refl _
theorem E2R (k:Nat):B5 Tryz.prog (D4L (A4I k)):=
 B6 B7 HM D12 (es:=fun k=>C4e (K0 k) (S1 k) (A2h k) (Z5 k)) (fun k=>fc ⟨B4i k,fc ⟨C3R k,fc ⟨F2B k,fc ⟨D9O k,fz⟩⟩⟩⟩) Tryz.func12 1 (by kernel_rfl) (fun s=>rfl) (fun k=>D0t (A0R k)) (fc ⟨fun s=>rfl,fz⟩) (fun k s0=> .cons (by kernel_rfl) (by kernel_rfl) (fun s r h=>(E5P (A0R k) (K0 k) (S1 k) (A2h k) (Z5 k) s0 s).trans (F3z k s.1.1 s.1.2.1 s.1.2.2.1 s.2.1 r h)) (.nil)) (F:=fun k s=>A4I k s.1.1 s.1.2.1) (fun k s r h=>(e12 (A0R k) (K0 k) (S1 k) (A2h k) (Z5 k) s).trans (b12 k s.1.1 s.1.2.1 r h)) k
theorem E3R (k:Nat) (x0:TI):A0 (R9 k x0) (A2y x0):=A0.refl _
theorem C2y (k:Nat):B5 Tryz.prog (B5x (R9 k)):=
 B6 B7 HM B9K (es:=fun k=>[]) (fun k=>fz) Tryz.func149 0 (by kernel_rfl) (fun s=>rfl) (fun k=>[]) (fz) (fun k s0=> .nil) (F:=fun k s=>R9 k s.1.1) (fun k s r h=>(F6x s).trans (E3R k s.1.1 r h)) k
noncomputable abbrev A8G (k:Nat) (x0:(List Int)) (x3:Int):Option A1k:=All.exact_trim.l0 k x0 x3
theorem E8a (k:Nat) (x0:(List Int)) (x3:Int):A0 (All.exact_trim.l0 (k+1) x0 x3) (C2u (A8G k) x0 x3):=by rw [All.exact_trim.l0];unfold C2u;(try simp only [A8G,All.integer_zero.f,All.exact_stepAt.f,All.S24.f0,All.S24.f1,All.rd_T24,All.z24]);exact BR
theorem F5W (k:Nat) (x0:(List Int)):A0 (A0n k x0) (D0r (A8G k) x0):=by
 show A0 (All.exact_trim.f k x0) _
 unfold All.exact_trim.f;unfold D0r;(try simp only [A8G,All.integer_zero.f,All.exact_stepAt.f,All.S24.f0,All.S24.f1,All.rd_T24,All.z24]);exact BR
theorem E7i (k:Nat):B5 Tryz.prog (D2t (A0n k)):=
 B6 B7 HM A9n (es:=fun k=>[]) (fun k=>fz) Tryz.func245 1 (by kernel_rfl) (fun s=>rfl) (fun k=>D0G (A8G k)) (fc ⟨fun s=>rfl,fz⟩) (fun k s0=> .cons (by kernel_rfl) (by kernel_rfl) (fun s r h=>(F3G (A8G k) s0 s).trans (E8a k s.1.1 s.1.2.1 r h)) (.nil)) (F:=fun k s=>A0n k s.1.1) (fun k s r h=>(F3v (A8G k) s).trans (F5W k s.1.1 r h)) k
noncomputable abbrev A2c (k:Nat) (x17:(List Int)) (x18:Int) (x19:Int) (x3:(List Int)):Option K8:=All.exact_pack.l0 k x3 x17 x18 x19
noncomputable abbrev A1z (k:Nat) (x4:Int) (x5:Int) (x17:(List Int)) (x18:Int) (x19:Int) (x24:Int) (x3:(List Int)):Option K8:=All.exact_pack.l1 k x3 x4 x5 x17 x18 x19 x24
noncomputable abbrev A2Q (k:Nat) (x7:Int) (x3:(List Int)):Option K8:=All.exact_pack.l2 k x3 x7
theorem E0t (k:Nat) (x17:(List Int)) (x18:Int) (x19:Int) (x3:(List Int)):A0 (All.exact_pack.l0 (k+1) x3 x17 x18 x19) (D0e (A1z k) (A2Q k) x17 x18 x19 x3):=by rw [All.exact_pack.l0];unfold D0e;(try simp only [A2c,A1z,A2Q,A0n,All.integer_zero.f,All.exact_stepAt.f,All.S24.f0,All.S24.f1,All.rd_T24,All.z24]);exact BR
end Go.Proofs.YtijohnkgomcdbaaGreatV
