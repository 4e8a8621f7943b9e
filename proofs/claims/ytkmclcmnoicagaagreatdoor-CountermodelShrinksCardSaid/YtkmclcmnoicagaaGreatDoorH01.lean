/- The formulas of the language as plain Lean data: nodes, the fields that operators use, the error of a node and of a list. No program in sight. -/
import Derived.WalkKit
import Derived.Lib.Hide
import Derived.Laws.OwnMore
import Derived.Deep.AppendLies
import Derived.Deep.Draws
import Derived.Test.YtkmclcmnoicagaaGreatDoorProg
import Derived.WalkSpells
import Derived.WalkLawsBesides
import Derived.Deep.QuietTactic
import Derived.BigQuiet
namespace Go.Proofs.YtkmclcmnoicagaaGreatDoor
set_option maxRecDepth 100000
set_option maxHeartbeats 128000000
theorem Qq {p:Prop}(h:p):Go.RowKit.Hid p:=Lib.hid h
theorem Qy {a b c:Nat}(h:a < b)(k:b<=c):a < c:=Nat.lt_of_lt_of_le h k
theorem Qv {α:Type _} {l:List α} {i:Nat}(h:i < l.length):l[i]?=some l[i]:=List.getElem?_eq_getElem h
theorem Qk {α:Type _} {l:List α} {i:Nat} {a:α} :l.getD i a=l[i]?.getD a:=List.getD_eq_getElem?_getD
theorem Qx {a b c:Nat}(h:a<=b)(k:b<=c):a<=c:=Nat.le_trans h k
open Go.RowKit
structure Nd where
 op:Int
 i:Int
 e:Int
 g:Int
 x:Int
 y:Int
deriving DecidableEq
def Nd.cells(n:Nd):List Value:= [.int .i64 n.op,.int .i64 n.i,.int .i64 n.e,.int .i64 n.g,.int .i64 n.x,.int .i64 n.y]
def Nd.val(n:Nd):Value:=.agg #[.int .i64 n.op,.int .i64 n.i,.int .i64 n.e,.int .i64 n.g,.int .i64 n.x,.int .i64 n.y]
def Yp(op:Int):Bool:=decide (1<=op)&&decide (op<=21)
def Zq(op:Int):Bool:=decide (4<=op)&&decide (op<=21)
def Qw(op:Int):Bool:=(decide (5<=op)&&decide (op<=8))||op==13||op==14||op==16||op==19||op==21
def Zo(op:Int):Bool:=op==3
def Zb(op:Int):Bool:=op==9||op==10||op==14||op==15
def Zm(op:Int):Bool:=decide (11<=op)&&decide (op<=13)
def Zd(op:Int):Bool:=op==17
def Vn(op:Int):Int :=
 if op==9||op==10 then 1 else if op==11 then 2 else if op==12 then 4 else if op==13 then 8 else if op==14 then 16 else if op==15 then 32
 else if op==16 then 64 else if op==17 then 128 else if decide (18<=op)&&decide (op<=21)then 256 else 0
def Ue(op:Int):Value :=
 .agg #[.bool (Zq op),.bool (Qw op),.bool (Zo op),.bool (Zb op),.bool (Zm op),.bool (Zd op),.int .i64 (Vn op)]
def Zx(used:Bool)(field at_:Int):Bool:=bif used then decide (0<=field)&&decide (field < at_)else field==0
def Ql(used:Bool)(v low lU:Int):Bool:=used&&(decide (v < low)||decide (lU < v))
def Zh(n:Nd):Bool:=(!(Zo n.op||Zb n.op||Zd n.op)&&n.i !=0)||(!Zd n.op&&n.e !=0)||(!Zm n.op&&n.g !=0)
def Ya(n:Nd):Bool :=
 Ql (Zo n.op) n.i 0 7||Ql (Zb n.op) n.i 0 3||Ql (Zd n.op) n.i 0 7||Ql (Zd n.op) n.e 0 7||Ql (Zm n.op) n.g 1 15
def Zr(n:Nd)(at_:Int):Int :=
 bif !Yp n.op then 10 else bif !Zx (Zq n.op) n.x at_|| !Zx (Qw n.op) n.y at_ then 3 else bif Zh n then 3 else bif Ya n then 2 else 0
theorem Dh(op:Int):op<=0\/22<=op\/op=1\/op=2\/op=3\/op=4\/op=5\/op=6\/op=7\/op=8\/op=9\/op=10\/op=11\/op=12\/op=13\/op=14\/op=15\/op=16\/op=17\/op=18\/op=19\/op=20\/op=21:=by omega
theorem Dc(op:Int):Yp op=true↔1<=op/\op<=21:=by simp [Yp]
theorem Qye(op:Int):(Zo op=false/\Zb op=false/\Zm op=false/\Zd op=false)\/(Zo op=true/\Zb op=false/\Zm op=false/\Zd op=false)\/
 (Zo op=false/\Zb op=true/\Zm op=false/\Zd op=false)\/(Zo op=false/\Zb op=false/\Zm op=true/\Zd op=false)\/
 (Zo op=false/\Zb op=false/\Zm op=false/\Zd op=true):=by
 rcases Dh op with h|h|h|h|h|h|h|h|h|h|h|h|h|h|h|h|h|h|h|h|h|h|h
 ·left;simp [Zo,Zb,Zm,Zd];omega
 ·left;simp [Zo,Zb,Zm,Zd];omega
 all_goals(subst h;decide)
def Jw:List Nd->Int->Int
 |[],_=>0
 |n :: r,a=>bif Zr n a !=0 then Zr n a else Jw r (a+1)
def check(l:List Nd):Int:=bif decide (l.length=0)then 3 else bif decide (200 < l.length)then 8 else Jw l 0
theorem Wt(l:List Nd)(k:Nat)(n:Nd)(h:l[k]?=some n):
 Jw (l.drop k) k=bif Zr n k !=0 then Zr n k else Jw (l.drop (k+1)) ((k+1:Nat):Int):=by
 obtain⟨hk,rfl⟩:=List.getElem?_eq_some_iff.1 h;rw [List.drop_eq_getElem_cons hk];rfl
def Qg(w w':World):Prop:=Below w.heap.size w w'
section
variable {a b c w:World}
theorem Qg.refl(w:World):Qg w w:=Below.refl _ _
theorem Qg.size(h:Qg a b):a.heap.size<=b.heap.size:=Below.size h
theorem Qg.trans(h:Qg a b)(k:Qg b c):Qg a c:=Below.trans h (Below.mono k h.size)
theorem Qg.alloc(h:Qg a b)(o:Obj):Qg a (b.alloc o):=Below.alloc h h.size o
theorem Qg.drew(h:Qg a b):Qg a b.drew:=Below.drew h
theorem Qg.drewN(h:Qg a b)(n:Nat):Qg a (b.drewN n):=⟨h.os,h.tape,h.output,h.size,h.block⟩
theorem Qg.setCell(h:Qg a b) {p:Addr}(hp:a.heap.size<=p.block)(u:Value):Qg a (b.setCell p u):=Below.setCell h hp u
theorem Qg.grown(h:Qg a b) {row:Option Nat}(hg:b.grownBy c row)(hr:∀k,row=some k->a.heap.size<=k):Qg a c:=Below.grown h hg h.size hr
theorem Qg.cell(h:Qg a b) {p:Addr}(hp:p.block < a.heap.size):b.cell? p=a.cell? p:=Below.cell h hp
theorem Qg.frozen(h:Qg a b) {p:Addr}(hp:p.block < a.heap.size):b.frozen? p=a.frozen? p:=Below.frozen h hp
theorem Qg.block(h:Qg a b) {k:Nat}(hk:k < a.heap.size):b.heap[k]?=a.heap[k]?:=Below.block h k hk
theorem Qg.facts(h:Qg a b):(∀k o,k < a.heap.size->b.cell? ⟨k,o,none⟩=a.cell? ⟨k,o,none⟩)/\(∀k o,k < a.heap.size->b.frozen? ⟨k,o,none⟩=a.frozen? ⟨k,o,none⟩)/\a.heap.size<=b.heap.size :=
 ⟨fun _ _ hk=>h.cell hk,fun _ _ hk=>h.frozen hk,h.size⟩
end
theorem Qz {w:World} :Qg w w:=Qg.refl w
theorem Qrf(op:Int)(w:World)(h:op<=0\/22<=op):
 Calls Tryz.prog 161 #[.int .i64 op] w fun e w'=>e=.returned (.tuple #[Ue op,.bool (Yp op)])/\Qg w w':=by
 have e1:(op==1)=false:=by simp;omega
 have e2:(op==2)=false:=by simp;omega
 have e3:(op==3)=false:=by simp;omega
 have e4:(op==4)=false:=by simp;omega
 have e5:(op==5)=false:=by simp;omega
 have e6:(op==6)=false:=by simp;omega
 have e7:(op==7)=false:=by simp;omega
 have e8:(op==8)=false:=by simp;omega
 have e9:(op==9)=false:=by simp;omega
 have e10:(op==10)=false:=by simp;omega
 have e11:(op==11)=false:=by simp;omega
 have e12:(op==12)=false:=by simp;omega
 have e13:(op==13)=false:=by simp;omega
 have e14:(op==14)=false:=by simp;omega
 have e15:(op==15)=false:=by simp;omega
 have e16:(op==16)=false:=by simp;omega
 have e17:(op==17)=false:=by simp;omega
 have e18:(op==18)=false:=by simp;omega
 have e19:(op==19)=false:=by simp;omega
 have e20:(op==20)=false:=by simp;omega
 have e21:(op==21)=false:=by simp;omega
 have hU:Ue op=.agg #[.bool false,.bool false,.bool false,.bool false,.bool false,.bool false,.int .i64 0]:=by
  have a:(decide (4<=op)&&decide (op<=21))=false:=by simp;omega
  have b:(decide (5<=op)&&decide (op<=8))=false:=by simp;omega
  have c:(decide (11<=op)&&decide (op<=13))=false:=by simp;omega
  have d:(decide (18<=op)&&decide (op<=21))=false:=by simp;omega
  simp only [Ue,Zq,Qw,Zo,Zb,Zm,Zd,Vn,a,b,c,d,e3,e9,e10,e11,e12,e13,e14,e15,e16,e17,e19,e21];rfl
 have hI:Yp op=false:=by simp [Yp];omega
 rw [hU,hI];clear hU hI h;go_enter Tryz.func161,Tryz.ntmps161;go_wp2;exact bodyPost_ret (v:=.tuple #[.agg #[.bool false,.bool false,.bool false,.bool false,.bool false,.bool false,.int .i64 0],.bool false]) (by simp [results,Tryz.results161,go_sem]) rfl ⟨rfl,Qz.alloc _⟩
theorem Zy8(w:World):
 Calls Tryz.prog 161 #[.int .i64 1] w fun e w'=>e=.returned (.tuple #[Ue 1,.bool (Yp 1)])/\Qg w w':=by
 go_enter Tryz.func161,Tryz.ntmps161;go_wp2;exact bodyPost_ret (v:=.tuple #[.agg #[.bool false,.bool false,.bool false,.bool false,.bool false,.bool false,.int .i64 0],.bool true]) (by simp [results,Tryz.results161,go_sem]) rfl ⟨rfl,Qz.alloc _⟩
theorem Zy9(w:World):
 Calls Tryz.prog 161 #[.int .i64 2] w fun e w'=>e=.returned (.tuple #[Ue 2,.bool (Yp 2)])/\Qg w w':=by
 go_enter Tryz.func161,Tryz.ntmps161;go_wp2;exact bodyPost_ret (v:=.tuple #[.agg #[.bool false,.bool false,.bool false,.bool false,.bool false,.bool false,.int .i64 0],.bool true]) (by simp [results,Tryz.results161,go_sem]) rfl ⟨rfl,Qz.alloc _⟩
theorem Zvq(w:World):
 Calls Tryz.prog 161 #[.int .i64 3] w fun e w'=>e=.returned (.tuple #[Ue 3,.bool (Yp 3)])/\Qg w w':=by
 go_enter Tryz.func161,Tryz.ntmps161;go_wp2;exact bodyPost_ret (v:=.tuple #[.agg #[.bool false,.bool false,.bool true,.bool false,.bool false,.bool false,.int .i64 0],.bool true]) (by simp [results,Tryz.results161,go_sem]) rfl ⟨rfl,Qz.alloc _⟩
theorem Zvz(w:World):
 Calls Tryz.prog 161 #[.int .i64 4] w fun e w'=>e=.returned (.tuple #[Ue 4,.bool (Yp 4)])/\Qg w w':=by
 go_enter Tryz.func161,Tryz.ntmps161;go_wp2;exact bodyPost_ret (v:=.tuple #[.agg #[.bool true,.bool false,.bool false,.bool false,.bool false,.bool false,.int .i64 0],.bool true]) (by simp [results,Tryz.results161,go_sem]) rfl ⟨rfl,Qz.alloc _⟩
theorem Zvj(w:World):
 Calls Tryz.prog 161 #[.int .i64 5] w fun e w'=>e=.returned (.tuple #[Ue 5,.bool (Yp 5)])/\Qg w w':=by
 go_enter Tryz.func161,Tryz.ntmps161;go_wp2;exact bodyPost_ret (v:=.tuple #[.agg #[.bool true,.bool true,.bool false,.bool false,.bool false,.bool false,.int .i64 0],.bool true]) (by simp [results,Tryz.results161,go_sem]) rfl ⟨rfl,Qz.alloc _⟩
theorem Zvy(w:World):
 Calls Tryz.prog 161 #[.int .i64 6] w fun e w'=>e=.returned (.tuple #[Ue 6,.bool (Yp 6)])/\Qg w w':=by
 go_enter Tryz.func161,Tryz.ntmps161;go_wp2;exact bodyPost_ret (v:=.tuple #[.agg #[.bool true,.bool true,.bool false,.bool false,.bool false,.bool false,.int .i64 0],.bool true]) (by simp [results,Tryz.results161,go_sem]) rfl ⟨rfl,Qz.alloc _⟩
theorem Zvv(w:World):
 Calls Tryz.prog 161 #[.int .i64 7] w fun e w'=>e=.returned (.tuple #[Ue 7,.bool (Yp 7)])/\Qg w w':=by
 go_enter Tryz.func161,Tryz.ntmps161;go_wp2;exact bodyPost_ret (v:=.tuple #[.agg #[.bool true,.bool true,.bool false,.bool false,.bool false,.bool false,.int .i64 0],.bool true]) (by simp [results,Tryz.results161,go_sem]) rfl ⟨rfl,Qz.alloc _⟩
theorem Zvk(w:World):
 Calls Tryz.prog 161 #[.int .i64 8] w fun e w'=>e=.returned (.tuple #[Ue 8,.bool (Yp 8)])/\Qg w w':=by
 go_enter Tryz.func161,Tryz.ntmps161;go_wp2;exact bodyPost_ret (v:=.tuple #[.agg #[.bool true,.bool true,.bool false,.bool false,.bool false,.bool false,.int .i64 0],.bool true]) (by simp [results,Tryz.results161,go_sem]) rfl ⟨rfl,Qz.alloc _⟩
theorem Zvx(w:World):
 Calls Tryz.prog 161 #[.int .i64 9] w fun e w'=>e=.returned (.tuple #[Ue 9,.bool (Yp 9)])/\Qg w w':=by
 go_enter Tryz.func161,Tryz.ntmps161;go_wp2;exact bodyPost_ret (v:=.tuple #[.agg #[.bool true,.bool false,.bool false,.bool true,.bool false,.bool false,.int .i64 1],.bool true]) (by simp [results,Tryz.results161,go_sem]) rfl ⟨rfl,Qz.alloc _⟩
theorem Zz6(w:World):
 Calls Tryz.prog 161 #[.int .i64 10] w fun e w'=>e=.returned (.tuple #[Ue 10,.bool (Yp 10)])/\Qg w w':=by
 go_enter Tryz.func161,Tryz.ntmps161;go_wp2;exact bodyPost_ret (v:=.tuple #[.agg #[.bool true,.bool false,.bool false,.bool true,.bool false,.bool false,.int .i64 1],.bool true]) (by simp [results,Tryz.results161,go_sem]) rfl ⟨rfl,Qz.alloc _⟩
theorem Zz7(w:World):
 Calls Tryz.prog 161 #[.int .i64 11] w fun e w'=>e=.returned (.tuple #[Ue 11,.bool (Yp 11)])/\Qg w w':=by
 go_enter Tryz.func161,Tryz.ntmps161;go_wp2;exact bodyPost_ret (v:=.tuple #[.agg #[.bool true,.bool false,.bool false,.bool false,.bool true,.bool false,.int .i64 2],.bool true]) (by simp [results,Tryz.results161,go_sem]) rfl ⟨rfl,Qz.alloc _⟩
theorem Zz8(w:World):
 Calls Tryz.prog 161 #[.int .i64 12] w fun e w'=>e=.returned (.tuple #[Ue 12,.bool (Yp 12)])/\Qg w w':=by
 go_enter Tryz.func161,Tryz.ntmps161;go_wp2;exact bodyPost_ret (v:=.tuple #[.agg #[.bool true,.bool false,.bool false,.bool false,.bool true,.bool false,.int .i64 4],.bool true]) (by simp [results,Tryz.results161,go_sem]) rfl ⟨rfl,Qz.alloc _⟩
theorem Zz9(w:World):
 Calls Tryz.prog 161 #[.int .i64 13] w fun e w'=>e=.returned (.tuple #[Ue 13,.bool (Yp 13)])/\Qg w w':=by
 go_enter Tryz.func161,Tryz.ntmps161;go_wp2;exact bodyPost_ret (v:=.tuple #[.agg #[.bool true,.bool true,.bool false,.bool false,.bool true,.bool false,.int .i64 8],.bool true]) (by simp [results,Tryz.results161,go_sem]) rfl ⟨rfl,Qz.alloc _⟩
theorem Zjq(w:World):
 Calls Tryz.prog 161 #[.int .i64 14] w fun e w'=>e=.returned (.tuple #[Ue 14,.bool (Yp 14)])/\Qg w w':=by
 go_enter Tryz.func161,Tryz.ntmps161;go_wp2;exact bodyPost_ret (v:=.tuple #[.agg #[.bool true,.bool true,.bool false,.bool true,.bool false,.bool false,.int .i64 16],.bool true]) (by simp [results,Tryz.results161,go_sem]) rfl ⟨rfl,Qz.alloc _⟩
theorem Zjz(w:World):
 Calls Tryz.prog 161 #[.int .i64 15] w fun e w'=>e=.returned (.tuple #[Ue 15,.bool (Yp 15)])/\Qg w w':=by
 go_enter Tryz.func161,Tryz.ntmps161;go_wp2;exact bodyPost_ret (v:=.tuple #[.agg #[.bool true,.bool false,.bool false,.bool true,.bool false,.bool false,.int .i64 32],.bool true]) (by simp [results,Tryz.results161,go_sem]) rfl ⟨rfl,Qz.alloc _⟩
theorem Zjj(w:World):
 Calls Tryz.prog 161 #[.int .i64 16] w fun e w'=>e=.returned (.tuple #[Ue 16,.bool (Yp 16)])/\Qg w w':=by
 go_enter Tryz.func161,Tryz.ntmps161;go_wp2;exact bodyPost_ret (v:=.tuple #[.agg #[.bool true,.bool true,.bool false,.bool false,.bool false,.bool false,.int .i64 64],.bool true]) (by simp [results,Tryz.results161,go_sem]) rfl ⟨rfl,Qz.alloc _⟩
theorem Zjy(w:World):
 Calls Tryz.prog 161 #[.int .i64 17] w fun e w'=>e=.returned (.tuple #[Ue 17,.bool (Yp 17)])/\Qg w w':=by
 go_enter Tryz.func161,Tryz.ntmps161;go_wp2;exact bodyPost_ret (v:=.tuple #[.agg #[.bool true,.bool false,.bool false,.bool false,.bool false,.bool true,.int .i64 128],.bool true]) (by simp [results,Tryz.results161,go_sem]) rfl ⟨rfl,Qz.alloc _⟩
theorem Zjv(w:World):
 Calls Tryz.prog 161 #[.int .i64 18] w fun e w'=>e=.returned (.tuple #[Ue 18,.bool (Yp 18)])/\Qg w w':=by
 go_enter Tryz.func161,Tryz.ntmps161;go_wp2;exact bodyPost_ret (v:=.tuple #[.agg #[.bool true,.bool false,.bool false,.bool false,.bool false,.bool false,.int .i64 256],.bool true]) (by simp [results,Tryz.results161,go_sem]) rfl ⟨rfl,Qz.alloc _⟩
theorem Zjk(w:World):
 Calls Tryz.prog 161 #[.int .i64 19] w fun e w'=>e=.returned (.tuple #[Ue 19,.bool (Yp 19)])/\Qg w w':=by
 go_enter Tryz.func161,Tryz.ntmps161;go_wp2;exact bodyPost_ret (v:=.tuple #[.agg #[.bool true,.bool true,.bool false,.bool false,.bool false,.bool false,.int .i64 256],.bool true]) (by simp [results,Tryz.results161,go_sem]) rfl ⟨rfl,Qz.alloc _⟩
theorem Zjx(w:World):
 Calls Tryz.prog 161 #[.int .i64 20] w fun e w'=>e=.returned (.tuple #[Ue 20,.bool (Yp 20)])/\Qg w w':=by
 go_enter Tryz.func161,Tryz.ntmps161;go_wp2;exact bodyPost_ret (v:=.tuple #[.agg #[.bool true,.bool false,.bool false,.bool false,.bool false,.bool false,.int .i64 256],.bool true]) (by simp [results,Tryz.results161,go_sem]) rfl ⟨rfl,Qz.alloc _⟩
theorem Zjg(w:World):
 Calls Tryz.prog 161 #[.int .i64 21] w fun e w'=>e=.returned (.tuple #[Ue 21,.bool (Yp 21)])/\Qg w w':=by
 go_enter Tryz.func161,Tryz.ntmps161;go_wp2;exact bodyPost_ret (v:=.tuple #[.agg #[.bool true,.bool true,.bool false,.bool false,.bool false,.bool false,.int .i64 256],.bool true]) (by simp [results,Tryz.results161,go_sem]) rfl ⟨rfl,Qz.alloc _⟩
theorem Qoe(op:Int)(w:World):
 Calls Tryz.prog 161 #[.int .i64 op] w fun e w'=>e=.returned (.tuple #[Ue op,.bool (Yp op)])/\Qg w w':=by
 rcases Dh op with h|h|h|h|h|h|h|h|h|h|h|h|h|h|h|h|h|h|h|h|h|h|h
 ·exact Qrf op w (.inl h)
 ·exact Qrf op w (.inr h)
 ·rw [h];exact Zy8 w
 ·rw [h];exact Zy9 w
 ·rw [h];exact Zvq w
 ·rw [h];exact Zvz w
 ·rw [h];exact Zvj w
 ·rw [h];exact Zvy w
 ·rw [h];exact Zvv w
 ·rw [h];exact Zvk w
 ·rw [h];exact Zvx w
 ·rw [h];exact Zz6 w
 ·rw [h];exact Zz7 w
 ·rw [h];exact Zz8 w
 ·rw [h];exact Zz9 w
 ·rw [h];exact Zjq w
 ·rw [h];exact Zjz w
 ·rw [h];exact Zjj w
 ·rw [h];exact Zjy w
 ·rw [h];exact Zjv w
 ·rw [h];exact Zjk w
 ·rw [h];exact Zjx w
 rw [h];exact Zjg w
theorem Qr9(u:Bool)(field at_:Int)(w:World):
 Calls Tryz.prog 167 #[.bool u,.int .i64 field,.int .i64 at_] w fun e w'=>e=.returned (.bool (Zx u field at_))/\w=w':=by
 cases u
 ·go_enter Tryz.func167,Tryz.ntmps167;go_wp2;go_ret;exact⟨rfl,rfl⟩
 by_cases h:0<=field
 ·go_enter Tryz.func167,Tryz.ntmps167;go_wp2
  all_goals
   go_ret;refine⟨?_,rfl⟩;simp [Zx];omega
 go_enter Tryz.func167,Tryz.ntmps167;go_wp2
 all_goals
  go_ret;refine⟨?_,rfl⟩;simp [Zx];omega
theorem Qsq(u:Bool)(v low lU:Int)(w:World):
 Calls Tryz.prog 168 #[.bool u,.int .i64 v,.int .i64 low,.int .i64 lU] w fun e w'=>e=.returned (.bool (Ql u v low lU))/\w=w':=by
 cases u
 ·go_enter Tryz.func168,Tryz.ntmps168;go_wp2;go_ret;exact⟨rfl,rfl⟩
 by_cases h:v < low
 ·go_enter Tryz.func168,Tryz.ntmps168;go_wp2
  all_goals
   go_ret;refine⟨?_,rfl⟩;simp [Ql];omega
 go_enter Tryz.func168,Tryz.ntmps168;go_wp2
 all_goals
  go_ret;refine⟨?_,rfl⟩;simp [Ql];omega
theorem Nn(op:Int)(ux uy uf ua ug ue o:Bool)(hx:Zq op=ux)(hy:Qw op=uy)(hf:Zo op=uf)(ha:Zb op=ua)(hg:Zm op=ug)(he:Zd op=ue)(ho:Yp op=o)(w:World):
 Calls Tryz.prog 161 #[.int .i64 op] w fun e w'=>e=.returned (.tuple #[.agg #[.bool ux,.bool uy,.bool uf,.bool ua,.bool ug,.bool ue,.int .i64 (Vn op)],.bool o])/\Qg w w':=by
 subst hx hy hf ha hg he ho;exact Qoe op w
theorem Qxo(n:Nd)(at_:Int)(w:World)(h:Yp n.op=false):
 Calls Tryz.prog 102 #[n.val,.int .i64 at_] w fun e w'=>e=.returned (.int .i64 10)/\Qg w w':=by
 unfold Nd.val;have H:=Qq h;clear h;go_enter Tryz.func102,Tryz.ntmps102;go_wp2_with(go_at_call 161;refine(Nn _ _ _ _ _ _ _ _ rfl rfl rfl rfl rfl rfl H.out _).mono ?_;rintro e w1 ⟨rfl,hb⟩);go_ret;exact⟨rfl,((Qz.alloc _).trans hb).alloc _⟩
theorem Mq(u:Bool)(field at_:Int)(r:Bool)(h:Zx u field at_=r)(w:World):
 Calls Tryz.prog 167 #[.bool u,.int .i64 field,.int .i64 at_] w fun e w'=>e=.returned (.bool r)/\w=w':=by
 subst h;exact Qr9 u field at_ w
theorem Qq5(u:Bool)(v low lU:Int)(r:Bool)(h:Ql u v low lU=r)(w:World):
 Calls Tryz.prog 168 #[.bool u,.int .i64 v,.int .i64 low,.int .i64 lU] w fun e w'=>e=.returned (.bool r)/\w=w':=by
 subst h;exact Qsq u v low lU w
end Go.Proofs.YtkmclcmnoicagaaGreatDoor
