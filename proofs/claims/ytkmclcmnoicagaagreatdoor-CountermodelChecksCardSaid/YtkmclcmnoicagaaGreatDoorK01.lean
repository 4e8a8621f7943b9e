/- The formulas of the language as plain Lean data: nodes, the fields that operators use, the error of a node and of a list. No program in sight. -/
import Derived.WalkKit
import Derived.Lib.Hide
import Derived.Laws.OwnMore
import Derived.Deep.AppendLies
import Derived.Deep.Draws
import Derived.Test.YtkmclcmnoicagaaGreatDoorProg
import Derived.WalkSpells
import Derived.WalkLawsBesides
import Derived.Deep.QuietTactic
import Derived.BigQuiet
namespace Go.Proofs.YtkmclcmnoicagaaGreatDoor
set_option maxRecDepth 100000
set_option maxHeartbeats 128000000
theorem Qq {p:Prop}(h:p):Go.RowKit.Hid p:=Lib.hid h
theorem Qy {a b c:Nat}(h:a < b)(k:b<=c):a < c:=Nat.lt_of_lt_of_le h k
theorem Qv {α:Type _} {l:List α} {i:Nat}(h:i < l.length):l[i]?=some l[i]:=List.getElem?_eq_getElem h
theorem Qk {α:Type _} {l:List α} {i:Nat} {a:α} :l.getD i a=l[i]?.getD a:=List.getD_eq_getElem?_getD
theorem Qx {a b c:Nat}(h:a<=b)(k:b<=c):a<=c:=Nat.le_trans h k
open Go.RowKit
structure Nd where
 op:Int
 i:Int
 e:Int
 g:Int
 x:Int
 y:Int
deriving DecidableEq
def Nd.cells(n:Nd):List Value:= [.int .i64 n.op,.int .i64 n.i,.int .i64 n.e,.int .i64 n.g,.int .i64 n.x,.int .i64 n.y]
def Nd.val(n:Nd):Value:=.agg #[.int .i64 n.op,.int .i64 n.i,.int .i64 n.e,.int .i64 n.g,.int .i64 n.x,.int .i64 n.y]
def Jd(op:Int):Bool:=decide (1<=op)&&decide (op<=21)
def Qw(op:Int):Bool:=decide (4<=op)&&decide (op<=21)
def Qc(op:Int):Bool:=(decide (5<=op)&&decide (op<=8))||op==13||op==14||op==16||op==19||op==21
def Zg(op:Int):Bool:=op==3
def Qo(op:Int):Bool:=op==9||op==10||op==14||op==15
def Zk(op:Int):Bool:=decide (11<=op)&&decide (op<=13)
def Qi(op:Int):Bool:=op==17
def Vf(op:Int):Int :=
 if op==9||op==10 then 1 else if op==11 then 2 else if op==12 then 4 else if op==13 then 8 else if op==14 then 16 else if op==15 then 32
 else if op==16 then 64 else if op==17 then 128 else if decide (18<=op)&&decide (op<=21)then 256 else 0
def Up(op:Int):Value :=
 .agg #[.bool (Qw op),.bool (Qc op),.bool (Zg op),.bool (Qo op),.bool (Zk op),.bool (Qi op),.int .i64 (Vf op)]
def Ql(used:Bool)(field at_:Int):Bool:=bif used then decide (0<=field)&&decide (field < at_)else field==0
def Qt(used:Bool)(v low mM:Int):Bool:=used&&(decide (v < low)||decide (mM < v))
def Zd(n:Nd):Bool:=(!(Zg n.op||Qo n.op||Qi n.op)&&n.i !=0)||(!Qi n.op&&n.e !=0)||(!Zk n.op&&n.g !=0)
def Jt(n:Nd):Bool :=
 Qt (Zg n.op) n.i 0 7||Qt (Qo n.op) n.i 0 3||Qt (Qi n.op) n.i 0 7||Qt (Qi n.op) n.e 0 7||Qt (Zk n.op) n.g 1 15
def Zv(n:Nd)(at_:Int):Int :=
 bif !Jd n.op then 10 else bif !Ql (Qw n.op) n.x at_|| !Ql (Qc n.op) n.y at_ then 3 else bif Zd n then 3 else bif Jt n then 2 else 0
theorem Dz(op:Int):op<=0\/22<=op\/op=1\/op=2\/op=3\/op=4\/op=5\/op=6\/op=7\/op=8\/op=9\/op=10\/op=11\/op=12\/op=13\/op=14\/op=15\/op=16\/op=17\/op=18\/op=19\/op=20\/op=21:=by omega
theorem Dq(op:Int):Jd op=true↔1<=op/\op<=21:=by simp [Jd]
theorem Qjv(op:Int):(Zg op=false/\Qo op=false/\Zk op=false/\Qi op=false)\/(Zg op=true/\Qo op=false/\Zk op=false/\Qi op=false)\/
 (Zg op=false/\Qo op=true/\Zk op=false/\Qi op=false)\/(Zg op=false/\Qo op=false/\Zk op=true/\Qi op=false)\/
 (Zg op=false/\Qo op=false/\Zk op=false/\Qi op=true):=by
 rcases Dz op with h|h|h|h|h|h|h|h|h|h|h|h|h|h|h|h|h|h|h|h|h|h|h
 ·left;simp [Zg,Qo,Zk,Qi];omega
 ·left;simp [Zg,Qo,Zk,Qi];omega
 all_goals(subst h;decide)
def Je:List Nd->Int->Int
 |[],_=>0
 |n :: r,a=>bif Zv n a !=0 then Zv n a else Je r (a+1)
def check(l:List Nd):Int:=bif decide (l.length=0)then 3 else bif decide (200 < l.length)then 8 else Je l 0
theorem Ht(l:List Nd)(k:Nat)(n:Nd)(h:l[k]?=some n):
 Je (l.drop k) k=bif Zv n k !=0 then Zv n k else Je (l.drop (k+1)) ((k+1:Nat):Int):=by
 obtain⟨hk,rfl⟩:=List.getElem?_eq_some_iff.1 h;rw [List.drop_eq_getElem_cons hk];rfl
def Ext(w w':World):Prop:=Below w.heap.size w w'
section
variable {a b c w:World}
theorem Ext.refl(w:World):Ext w w:=Below.refl _ _
theorem Ext.size(h:Ext a b):a.heap.size<=b.heap.size:=Below.size h
theorem Ext.trans(h:Ext a b)(k:Ext b c):Ext a c:=Below.trans h (Below.mono k h.size)
theorem Ext.alloc(h:Ext a b)(o:Obj):Ext a (b.alloc o):=Below.alloc h h.size o
theorem Ext.drew(h:Ext a b):Ext a b.drew:=Below.drew h
theorem Ext.drewN(h:Ext a b)(n:Nat):Ext a (b.drewN n):=⟨h.os,h.tape,h.output,h.size,h.block⟩
theorem Ext.setCell(h:Ext a b) {p:Addr}(hp:a.heap.size<=p.block)(u:Value):Ext a (b.setCell p u):=Below.setCell h hp u
theorem Ext.grown(h:Ext a b) {row:Option Nat}(hg:b.grownBy c row)(hr:∀k,row=some k->a.heap.size<=k):Ext a c:=Below.grown h hg h.size hr
theorem Ext.cell(h:Ext a b) {p:Addr}(hp:p.block < a.heap.size):b.cell? p=a.cell? p:=Below.cell h hp
theorem Ext.frozen(h:Ext a b) {p:Addr}(hp:p.block < a.heap.size):b.frozen? p=a.frozen? p:=Below.frozen h hp
theorem Ext.block(h:Ext a b) {k:Nat}(hk:k < a.heap.size):b.heap[k]?=a.heap[k]?:=Below.block h k hk
theorem Ext.facts(h:Ext a b):(∀k o,k < a.heap.size->b.cell? ⟨k,o,none⟩=a.cell? ⟨k,o,none⟩)/\(∀k o,k < a.heap.size->b.frozen? ⟨k,o,none⟩=a.frozen? ⟨k,o,none⟩)/\a.heap.size<=b.heap.size :=
 ⟨fun _ _ hk=>h.cell hk,fun _ _ hk=>h.frozen hk,h.size⟩
end
theorem Qz {w:World} :Ext w w:=Ext.refl w
theorem Qnk(op:Int)(w:World)(h:op<=0\/22<=op):
 Calls Tryz.prog 161 #[.int .i64 op] w fun e w'=>e=.returned (.tuple #[Up op,.bool (Jd op)])/\Ext w w':=by
 have e1:(op==1)=false:=by simp;omega
 have e2:(op==2)=false:=by simp;omega
 have e3:(op==3)=false:=by simp;omega
 have e4:(op==4)=false:=by simp;omega
 have e5:(op==5)=false:=by simp;omega
 have e6:(op==6)=false:=by simp;omega
 have e7:(op==7)=false:=by simp;omega
 have e8:(op==8)=false:=by simp;omega
 have e9:(op==9)=false:=by simp;omega
 have e10:(op==10)=false:=by simp;omega
 have e11:(op==11)=false:=by simp;omega
 have e12:(op==12)=false:=by simp;omega
 have e13:(op==13)=false:=by simp;omega
 have e14:(op==14)=false:=by simp;omega
 have e15:(op==15)=false:=by simp;omega
 have e16:(op==16)=false:=by simp;omega
 have e17:(op==17)=false:=by simp;omega
 have e18:(op==18)=false:=by simp;omega
 have e19:(op==19)=false:=by simp;omega
 have e20:(op==20)=false:=by simp;omega
 have e21:(op==21)=false:=by simp;omega
 have hU:Up op=.agg #[.bool false,.bool false,.bool false,.bool false,.bool false,.bool false,.int .i64 0]:=by
  have a:(decide (4<=op)&&decide (op<=21))=false:=by simp;omega
  have b:(decide (5<=op)&&decide (op<=8))=false:=by simp;omega
  have c:(decide (11<=op)&&decide (op<=13))=false:=by simp;omega
  have d:(decide (18<=op)&&decide (op<=21))=false:=by simp;omega
  simp only [Up,Qw,Qc,Zg,Qo,Zk,Qi,Vf,a,b,c,d,e3,e9,e10,e11,e12,e13,e14,e15,e16,e17,e19,e21];rfl
 have hI:Jd op=false:=by simp [Jd];omega
 rw [hU,hI];clear hU hI h;go_enter Tryz.func161,Tryz.ntmps161;go_wp2;exact bodyPost_ret (v:=.tuple #[.agg #[.bool false,.bool false,.bool false,.bool false,.bool false,.bool false,.int .i64 0],.bool false]) (by simp [results,Tryz.results161,go_sem]) rfl ⟨rfl,Qz.alloc _⟩
theorem Zjm(w:World):
 Calls Tryz.prog 161 #[.int .i64 1] w fun e w'=>e=.returned (.tuple #[Up 1,.bool (Jd 1)])/\Ext w w':=by
 go_enter Tryz.func161,Tryz.ntmps161;go_wp2;exact bodyPost_ret (v:=.tuple #[.agg #[.bool false,.bool false,.bool false,.bool false,.bool false,.bool false,.int .i64 0],.bool true]) (by simp [results,Tryz.results161,go_sem]) rfl ⟨rfl,Qz.alloc _⟩
theorem Zjp(w:World):
 Calls Tryz.prog 161 #[.int .i64 2] w fun e w'=>e=.returned (.tuple #[Up 2,.bool (Jd 2)])/\Ext w w':=by
 go_enter Tryz.func161,Tryz.ntmps161;go_wp2;exact bodyPost_ret (v:=.tuple #[.agg #[.bool false,.bool false,.bool false,.bool false,.bool false,.bool false,.int .i64 0],.bool true]) (by simp [results,Tryz.results161,go_sem]) rfl ⟨rfl,Qz.alloc _⟩
theorem Zjc(w:World):
 Calls Tryz.prog 161 #[.int .i64 3] w fun e w'=>e=.returned (.tuple #[Up 3,.bool (Jd 3)])/\Ext w w':=by
 go_enter Tryz.func161,Tryz.ntmps161;go_wp2;exact bodyPost_ret (v:=.tuple #[.agg #[.bool false,.bool false,.bool true,.bool false,.bool false,.bool false,.int .i64 0],.bool true]) (by simp [results,Tryz.results161,go_sem]) rfl ⟨rfl,Qz.alloc _⟩
theorem Zjh(w:World):
 Calls Tryz.prog 161 #[.int .i64 4] w fun e w'=>e=.returned (.tuple #[Up 4,.bool (Jd 4)])/\Ext w w':=by
 go_enter Tryz.func161,Tryz.ntmps161;go_wp2;exact bodyPost_ret (v:=.tuple #[.agg #[.bool true,.bool false,.bool false,.bool false,.bool false,.bool false,.int .i64 0],.bool true]) (by simp [results,Tryz.results161,go_sem]) rfl ⟨rfl,Qz.alloc _⟩
theorem Zja(w:World):
 Calls Tryz.prog 161 #[.int .i64 5] w fun e w'=>e=.returned (.tuple #[Up 5,.bool (Jd 5)])/\Ext w w':=by
 go_enter Tryz.func161,Tryz.ntmps161;go_wp2;exact bodyPost_ret (v:=.tuple #[.agg #[.bool true,.bool true,.bool false,.bool false,.bool false,.bool false,.int .i64 0],.bool true]) (by simp [results,Tryz.results161,go_sem]) rfl ⟨rfl,Qz.alloc _⟩
theorem Zje(w:World):
 Calls Tryz.prog 161 #[.int .i64 6] w fun e w'=>e=.returned (.tuple #[Up 6,.bool (Jd 6)])/\Ext w w':=by
 go_enter Tryz.func161,Tryz.ntmps161;go_wp2;exact bodyPost_ret (v:=.tuple #[.agg #[.bool true,.bool true,.bool false,.bool false,.bool false,.bool false,.int .i64 0],.bool true]) (by simp [results,Tryz.results161,go_sem]) rfl ⟨rfl,Qz.alloc _⟩
theorem Zjw(w:World):
 Calls Tryz.prog 161 #[.int .i64 7] w fun e w'=>e=.returned (.tuple #[Up 7,.bool (Jd 7)])/\Ext w w':=by
 go_enter Tryz.func161,Tryz.ntmps161;go_wp2;exact bodyPost_ret (v:=.tuple #[.agg #[.bool true,.bool true,.bool false,.bool false,.bool false,.bool false,.int .i64 0],.bool true]) (by simp [results,Tryz.results161,go_sem]) rfl ⟨rfl,Qz.alloc _⟩
theorem Zjo(w:World):
 Calls Tryz.prog 161 #[.int .i64 8] w fun e w'=>e=.returned (.tuple #[Up 8,.bool (Jd 8)])/\Ext w w':=by
 go_enter Tryz.func161,Tryz.ntmps161;go_wp2;exact bodyPost_ret (v:=.tuple #[.agg #[.bool true,.bool true,.bool false,.bool false,.bool false,.bool false,.int .i64 0],.bool true]) (by simp [results,Tryz.results161,go_sem]) rfl ⟨rfl,Qz.alloc _⟩
theorem Zji(w:World):
 Calls Tryz.prog 161 #[.int .i64 9] w fun e w'=>e=.returned (.tuple #[Up 9,.bool (Jd 9)])/\Ext w w':=by
 go_enter Tryz.func161,Tryz.ntmps161;go_wp2;exact bodyPost_ret (v:=.tuple #[.agg #[.bool true,.bool false,.bool false,.bool true,.bool false,.bool false,.int .i64 1],.bool true]) (by simp [results,Tryz.results161,go_sem]) rfl ⟨rfl,Qz.alloc _⟩
theorem Zqt(w:World):
 Calls Tryz.prog 161 #[.int .i64 10] w fun e w'=>e=.returned (.tuple #[Up 10,.bool (Jd 10)])/\Ext w w':=by
 go_enter Tryz.func161,Tryz.ntmps161;go_wp2;exact bodyPost_ret (v:=.tuple #[.agg #[.bool true,.bool false,.bool false,.bool true,.bool false,.bool false,.int .i64 1],.bool true]) (by simp [results,Tryz.results161,go_sem]) rfl ⟨rfl,Qz.alloc _⟩
theorem Zql(w:World):
 Calls Tryz.prog 161 #[.int .i64 11] w fun e w'=>e=.returned (.tuple #[Up 11,.bool (Jd 11)])/\Ext w w':=by
 go_enter Tryz.func161,Tryz.ntmps161;go_wp2;exact bodyPost_ret (v:=.tuple #[.agg #[.bool true,.bool false,.bool false,.bool false,.bool true,.bool false,.int .i64 2],.bool true]) (by simp [results,Tryz.results161,go_sem]) rfl ⟨rfl,Qz.alloc _⟩
theorem Zqm(w:World):
 Calls Tryz.prog 161 #[.int .i64 12] w fun e w'=>e=.returned (.tuple #[Up 12,.bool (Jd 12)])/\Ext w w':=by
 go_enter Tryz.func161,Tryz.ntmps161;go_wp2;exact bodyPost_ret (v:=.tuple #[.agg #[.bool true,.bool false,.bool false,.bool false,.bool true,.bool false,.int .i64 4],.bool true]) (by simp [results,Tryz.results161,go_sem]) rfl ⟨rfl,Qz.alloc _⟩
theorem Zqp(w:World):
 Calls Tryz.prog 161 #[.int .i64 13] w fun e w'=>e=.returned (.tuple #[Up 13,.bool (Jd 13)])/\Ext w w':=by
 go_enter Tryz.func161,Tryz.ntmps161;go_wp2;exact bodyPost_ret (v:=.tuple #[.agg #[.bool true,.bool true,.bool false,.bool false,.bool true,.bool false,.int .i64 8],.bool true]) (by simp [results,Tryz.results161,go_sem]) rfl ⟨rfl,Qz.alloc _⟩
theorem Zqc(w:World):
 Calls Tryz.prog 161 #[.int .i64 14] w fun e w'=>e=.returned (.tuple #[Up 14,.bool (Jd 14)])/\Ext w w':=by
 go_enter Tryz.func161,Tryz.ntmps161;go_wp2;exact bodyPost_ret (v:=.tuple #[.agg #[.bool true,.bool true,.bool false,.bool true,.bool false,.bool false,.int .i64 16],.bool true]) (by simp [results,Tryz.results161,go_sem]) rfl ⟨rfl,Qz.alloc _⟩
theorem Zqh(w:World):
 Calls Tryz.prog 161 #[.int .i64 15] w fun e w'=>e=.returned (.tuple #[Up 15,.bool (Jd 15)])/\Ext w w':=by
 go_enter Tryz.func161,Tryz.ntmps161;go_wp2;exact bodyPost_ret (v:=.tuple #[.agg #[.bool true,.bool false,.bool false,.bool true,.bool false,.bool false,.int .i64 32],.bool true]) (by simp [results,Tryz.results161,go_sem]) rfl ⟨rfl,Qz.alloc _⟩
theorem Zqa(w:World):
 Calls Tryz.prog 161 #[.int .i64 16] w fun e w'=>e=.returned (.tuple #[Up 16,.bool (Jd 16)])/\Ext w w':=by
 go_enter Tryz.func161,Tryz.ntmps161;go_wp2;exact bodyPost_ret (v:=.tuple #[.agg #[.bool true,.bool true,.bool false,.bool false,.bool false,.bool false,.int .i64 64],.bool true]) (by simp [results,Tryz.results161,go_sem]) rfl ⟨rfl,Qz.alloc _⟩
theorem Zqe(w:World):
 Calls Tryz.prog 161 #[.int .i64 17] w fun e w'=>e=.returned (.tuple #[Up 17,.bool (Jd 17)])/\Ext w w':=by
 go_enter Tryz.func161,Tryz.ntmps161;go_wp2;exact bodyPost_ret (v:=.tuple #[.agg #[.bool true,.bool false,.bool false,.bool false,.bool false,.bool true,.int .i64 128],.bool true]) (by simp [results,Tryz.results161,go_sem]) rfl ⟨rfl,Qz.alloc _⟩
theorem Zqw(w:World):
 Calls Tryz.prog 161 #[.int .i64 18] w fun e w'=>e=.returned (.tuple #[Up 18,.bool (Jd 18)])/\Ext w w':=by
 go_enter Tryz.func161,Tryz.ntmps161;go_wp2;exact bodyPost_ret (v:=.tuple #[.agg #[.bool true,.bool false,.bool false,.bool false,.bool false,.bool false,.int .i64 256],.bool true]) (by simp [results,Tryz.results161,go_sem]) rfl ⟨rfl,Qz.alloc _⟩
theorem Zqo(w:World):
 Calls Tryz.prog 161 #[.int .i64 19] w fun e w'=>e=.returned (.tuple #[Up 19,.bool (Jd 19)])/\Ext w w':=by
 go_enter Tryz.func161,Tryz.ntmps161;go_wp2;exact bodyPost_ret (v:=.tuple #[.agg #[.bool true,.bool true,.bool false,.bool false,.bool false,.bool false,.int .i64 256],.bool true]) (by simp [results,Tryz.results161,go_sem]) rfl ⟨rfl,Qz.alloc _⟩
theorem Zqi(w:World):
 Calls Tryz.prog 161 #[.int .i64 20] w fun e w'=>e=.returned (.tuple #[Up 20,.bool (Jd 20)])/\Ext w w':=by
 go_enter Tryz.func161,Tryz.ntmps161;go_wp2;exact bodyPost_ret (v:=.tuple #[.agg #[.bool true,.bool false,.bool false,.bool false,.bool false,.bool false,.int .i64 256],.bool true]) (by simp [results,Tryz.results161,go_sem]) rfl ⟨rfl,Qz.alloc _⟩
theorem Zq0(w:World):
 Calls Tryz.prog 161 #[.int .i64 21] w fun e w'=>e=.returned (.tuple #[Up 21,.bool (Jd 21)])/\Ext w w':=by
 go_enter Tryz.func161,Tryz.ntmps161;go_wp2;exact bodyPost_ret (v:=.tuple #[.agg #[.bool true,.bool true,.bool false,.bool false,.bool false,.bool false,.int .i64 256],.bool true]) (by simp [results,Tryz.results161,go_sem]) rfl ⟨rfl,Qz.alloc _⟩
theorem Qwk(op:Int)(w:World):
 Calls Tryz.prog 161 #[.int .i64 op] w fun e w'=>e=.returned (.tuple #[Up op,.bool (Jd op)])/\Ext w w':=by
 rcases Dz op with h|h|h|h|h|h|h|h|h|h|h|h|h|h|h|h|h|h|h|h|h|h|h
 ·exact Qnk op w (.inl h)
 ·exact Qnk op w (.inr h)
 ·rw [h];exact Zjm w
 ·rw [h];exact Zjp w
 ·rw [h];exact Zjc w
 ·rw [h];exact Zjh w
 ·rw [h];exact Zja w
 ·rw [h];exact Zje w
 ·rw [h];exact Zjw w
 ·rw [h];exact Zjo w
 ·rw [h];exact Zji w
 ·rw [h];exact Zqt w
 ·rw [h];exact Zql w
 ·rw [h];exact Zqm w
 ·rw [h];exact Zqp w
 ·rw [h];exact Zqc w
 ·rw [h];exact Zqh w
 ·rw [h];exact Zqa w
 ·rw [h];exact Zqe w
 ·rw [h];exact Zqw w
 ·rw [h];exact Zqo w
 ·rw [h];exact Zqi w
 rw [h];exact Zq0 w
theorem Qn6(u:Bool)(field at_:Int)(w:World):
 Calls Tryz.prog 167 #[.bool u,.int .i64 field,.int .i64 at_] w fun e w'=>e=.returned (.bool (Ql u field at_))/\w=w':=by
 cases u
 ·go_enter Tryz.func167,Tryz.ntmps167;go_wp2;go_ret;exact⟨rfl,rfl⟩
 by_cases h:0<=field
 ·go_enter Tryz.func167,Tryz.ntmps167;go_wp2
  all_goals
   go_ret;refine⟨?_,rfl⟩;simp [Ql];omega
 go_enter Tryz.func167,Tryz.ntmps167;go_wp2
 all_goals
  go_ret;refine⟨?_,rfl⟩;simp [Ql];omega
theorem Qn7(u:Bool)(v low mM:Int)(w:World):
 Calls Tryz.prog 168 #[.bool u,.int .i64 v,.int .i64 low,.int .i64 mM] w fun e w'=>e=.returned (.bool (Qt u v low mM))/\w=w':=by
 cases u
 ·go_enter Tryz.func168,Tryz.ntmps168;go_wp2;go_ret;exact⟨rfl,rfl⟩
 by_cases h:v < low
 ·go_enter Tryz.func168,Tryz.ntmps168;go_wp2
  all_goals
   go_ret;refine⟨?_,rfl⟩;simp [Qt];omega
 go_enter Tryz.func168,Tryz.ntmps168;go_wp2
 all_goals
  go_ret;refine⟨?_,rfl⟩;simp [Qt];omega
theorem Yw(op:Int)(ux uy uf ua ug ue o:Bool)(hx:Qw op=ux)(hy:Qc op=uy)(hf:Zg op=uf)(ha:Qo op=ua)(hg:Zk op=ug)(he:Qi op=ue)(ho:Jd op=o)(w:World):
 Calls Tryz.prog 161 #[.int .i64 op] w fun e w'=>e=.returned (.tuple #[.agg #[.bool ux,.bool uy,.bool uf,.bool ua,.bool ug,.bool ue,.int .i64 (Vf op)],.bool o])/\Ext w w':=by
 subst hx hy hf ha hg he ho;exact Qwk op w
theorem Qkw(n:Nd)(at_:Int)(w:World)(h:Jd n.op=false):
 Calls Tryz.prog 102 #[n.val,.int .i64 at_] w fun e w'=>e=.returned (.int .i64 10)/\Ext w w':=by
 unfold Nd.val;have H:=Qq h;clear h;go_enter Tryz.func102,Tryz.ntmps102;go_wp2_with(go_at_call 161;refine(Yw _ _ _ _ _ _ _ _ rfl rfl rfl rfl rfl rfl H.out _).mono ?_;rintro e w1 ⟨rfl,hb⟩);go_ret;exact⟨rfl,((Qz.alloc _).trans hb).alloc _⟩
theorem Zr(u:Bool)(field at_:Int)(r:Bool)(h:Ql u field at_=r)(w:World):
 Calls Tryz.prog 167 #[.bool u,.int .i64 field,.int .i64 at_] w fun e w'=>e=.returned (.bool r)/\w=w':=by
 subst h;exact Qn6 u field at_ w
theorem Jj(u:Bool)(v low mM:Int)(r:Bool)(h:Qt u v low mM=r)(w:World):
 Calls Tryz.prog 168 #[.bool u,.int .i64 v,.int .i64 low,.int .i64 mM] w fun e w'=>e=.returned (.bool r)/\w=w':=by
 subst h;exact Qn7 u v low mM w
end Go.Proofs.YtkmclcmnoicagaaGreatDoor
