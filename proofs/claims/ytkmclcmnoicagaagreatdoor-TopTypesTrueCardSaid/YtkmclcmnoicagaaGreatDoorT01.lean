/- The formulas of the language as plain Lean data: nodes, the fields that operators use, the error of a node and of a list. No program in sight. -/
import Derived.WalkKit
import Derived.Lib.Hide
import Derived.Laws.OwnMore
import Derived.Deep.AppendLies
import Derived.Deep.Draws
import Derived.Test.YtkmclcmnoicagaaGreatDoorProg
import Derived.WalkSpells
import Derived.WalkLawsBesides
import Derived.Deep.QuietTactic
import Derived.BigQuiet
namespace Go.Proofs.YtkmclcmnoicagaaGreatDoor
set_option maxRecDepth 100000
set_option maxHeartbeats 128000000
theorem Qq {p:Prop}(h:p):Go.RowKit.Hid p:=Lib.hid h
theorem Qy {a b c:Nat}(h:a < b)(k:b<=c):a < c:=Nat.lt_of_lt_of_le h k
theorem Qv {α:Type _} {l:List α} {i:Nat}(h:i < l.length):l[i]?=some l[i]:=List.getElem?_eq_getElem h
theorem Qk {α:Type _} {l:List α} {i:Nat} {a:α} :l.getD i a=l[i]?.getD a:=List.getD_eq_getElem?_getD
theorem Qx {a b c:Nat}(h:a<=b)(k:b<=c):a<=c:=Nat.le_trans h k
open Go.RowKit
structure Nd where
 op:Int
 i:Int
 e:Int
 g:Int
 x:Int
 y:Int
deriving DecidableEq
def Nd.cells(n:Nd):List Value:= [.int .i64 n.op,.int .i64 n.i,.int .i64 n.e,.int .i64 n.g,.int .i64 n.x,.int .i64 n.y]
def Nd.val(n:Nd):Value:=.agg #[.int .i64 n.op,.int .i64 n.i,.int .i64 n.e,.int .i64 n.g,.int .i64 n.x,.int .i64 n.y]
def Jk(op:Int):Bool:=decide (1<=op)&&decide (op<=21)
def Qh(op:Int):Bool:=decide (4<=op)&&decide (op<=21)
def Qc(op:Int):Bool:=(decide (5<=op)&&decide (op<=8))||op==13||op==14||op==16||op==19||op==21
def Zk(op:Int):Bool:=op==3
def Qe(op:Int):Bool:=op==9||op==10||op==14||op==15
def Zz(op:Int):Bool:=decide (11<=op)&&decide (op<=13)
def Qw(op:Int):Bool:=op==17
def Yd(op:Int):Int :=
 if op==9||op==10 then 1 else if op==11 then 2 else if op==12 then 4 else if op==13 then 8 else if op==14 then 16 else if op==15 then 32
 else if op==16 then 64 else if op==17 then 128 else if decide (18<=op)&&decide (op<=21)then 256 else 0
def Gm(op:Int):Value :=
 .agg #[.bool (Qh op),.bool (Qc op),.bool (Zk op),.bool (Qe op),.bool (Zz op),.bool (Qw op),.int .i64 (Yd op)]
def Qs(used:Bool)(field at_:Int):Bool:=bif used then decide (0<=field)&&decide (field < at_)else field==0
def Qr(used:Bool)(v low high:Int):Bool:=used&&(decide (v < low)||decide (high < v))
def Zv(n:Nd):Bool:=(!(Zk n.op||Qe n.op||Qw n.op)&&n.i !=0)||(!Qw n.op&&n.e !=0)||(!Zz n.op&&n.g !=0)
def Jg(n:Nd):Bool :=
 Qr (Zk n.op) n.i 0 7||Qr (Qe n.op) n.i 0 3||Qr (Qw n.op) n.i 0 7||Qr (Qw n.op) n.e 0 7||Qr (Zz n.op) n.g 1 15
def Qo(n:Nd)(at_:Int):Int :=
 bif !Jk n.op then 10 else bif !Qs (Qh n.op) n.x at_|| !Qs (Qc n.op) n.y at_ then 3 else bif Zv n then 3 else bif Jg n then 2 else 0
theorem Dn(op:Int):op<=0\/22<=op\/op=1\/op=2\/op=3\/op=4\/op=5\/op=6\/op=7\/op=8\/op=9\/op=10\/op=11\/op=12\/op=13\/op=14\/op=15\/op=16\/op=17\/op=18\/op=19\/op=20\/op=21:=by omega
theorem Sh(op:Int):Jk op=true↔1<=op/\op<=21:=by simp [Jk]
theorem Qqj(op:Int):(Zk op=false/\Qe op=false/\Zz op=false/\Qw op=false)\/(Zk op=true/\Qe op=false/\Zz op=false/\Qw op=false)\/
 (Zk op=false/\Qe op=true/\Zz op=false/\Qw op=false)\/(Zk op=false/\Qe op=false/\Zz op=true/\Qw op=false)\/
 (Zk op=false/\Qe op=false/\Zz op=false/\Qw op=true):=by
 rcases Dn op with h|h|h|h|h|h|h|h|h|h|h|h|h|h|h|h|h|h|h|h|h|h|h
 ·left;simp [Zk,Qe,Zz,Qw];omega
 ·left;simp [Zk,Qe,Zz,Qw];omega
 all_goals(subst h;decide)
def Jj:List Nd->Int->Int
 |[],_=>0
 |n :: r,a=>bif Qo n a !=0 then Qo n a else Jj r (a+1)
def check(l:List Nd):Int:=bif decide (l.length=0)then 3 else bif decide (200 < l.length)then 8 else Jj l 0
theorem Pj(l:List Nd)(k:Nat)(n:Nd)(h:l[k]?=some n):
 Jj (l.drop k) k=bif Qo n k !=0 then Qo n k else Jj (l.drop (k+1)) ((k+1:Nat):Int):=by
 obtain⟨hk,rfl⟩:=List.getElem?_eq_some_iff.1 h;rw [List.drop_eq_getElem_cons hk];rfl
def Ext(w w':World):Prop:=Below w.heap.size w w'
section
variable {a b c w:World}
theorem Ext.refl(w:World):Ext w w:=Below.refl _ _
theorem Ext.size(h:Ext a b):a.heap.size<=b.heap.size:=Below.size h
theorem Ext.trans(h:Ext a b)(k:Ext b c):Ext a c:=Below.trans h (Below.mono k h.size)
theorem Ext.alloc(h:Ext a b)(o:Obj):Ext a (b.alloc o):=Below.alloc h h.size o
theorem Ext.drew(h:Ext a b):Ext a b.drew:=Below.drew h
theorem Ext.drewN(h:Ext a b)(n:Nat):Ext a (b.drewN n):=⟨h.os,h.tape,h.output,h.size,h.block⟩
theorem Ext.setCell(h:Ext a b) {p:Addr}(hp:a.heap.size<=p.block)(u:Value):Ext a (b.setCell p u):=Below.setCell h hp u
theorem Ext.grown(h:Ext a b) {row:Option Nat}(hg:b.grownBy c row)(hr:∀k,row=some k->a.heap.size<=k):Ext a c:=Below.grown h hg h.size hr
theorem Ext.cell(h:Ext a b) {p:Addr}(hp:p.block < a.heap.size):b.cell? p=a.cell? p:=Below.cell h hp
theorem Ext.frozen(h:Ext a b) {p:Addr}(hp:p.block < a.heap.size):b.frozen? p=a.frozen? p:=Below.frozen h hp
theorem Ext.block(h:Ext a b) {k:Nat}(hk:k < a.heap.size):b.heap[k]?=a.heap[k]?:=Below.block h k hk
theorem Ext.facts(h:Ext a b):(∀k o,k < a.heap.size->b.cell? ⟨k,o,none⟩=a.cell? ⟨k,o,none⟩)/\(∀k o,k < a.heap.size->b.frozen? ⟨k,o,none⟩=a.frozen? ⟨k,o,none⟩)/\a.heap.size<=b.heap.size :=
 ⟨fun _ _ hk=>h.cell hk,fun _ _ hk=>h.frozen hk,h.size⟩
end
theorem Qz {w:World} :Ext w w:=Ext.refl w
theorem Qf5(op:Int)(w:World)(h:op<=0\/22<=op):
 Calls Tryz.prog 161 #[.int .i64 op] w fun e w'=>e=.returned (.tuple #[Gm op,.bool (Jk op)])/\Ext w w':=by
 have e1:(op==1)=false:=by simp;omega
 have e2:(op==2)=false:=by simp;omega
 have e3:(op==3)=false:=by simp;omega
 have e4:(op==4)=false:=by simp;omega
 have e5:(op==5)=false:=by simp;omega
 have e6:(op==6)=false:=by simp;omega
 have e7:(op==7)=false:=by simp;omega
 have e8:(op==8)=false:=by simp;omega
 have e9:(op==9)=false:=by simp;omega
 have e10:(op==10)=false:=by simp;omega
 have e11:(op==11)=false:=by simp;omega
 have e12:(op==12)=false:=by simp;omega
 have e13:(op==13)=false:=by simp;omega
 have e14:(op==14)=false:=by simp;omega
 have e15:(op==15)=false:=by simp;omega
 have e16:(op==16)=false:=by simp;omega
 have e17:(op==17)=false:=by simp;omega
 have e18:(op==18)=false:=by simp;omega
 have e19:(op==19)=false:=by simp;omega
 have e20:(op==20)=false:=by simp;omega
 have e21:(op==21)=false:=by simp;omega
 have hU:Gm op=.agg #[.bool false,.bool false,.bool false,.bool false,.bool false,.bool false,.int .i64 0]:=by
  have a:(decide (4<=op)&&decide (op<=21))=false:=by simp;omega
  have b:(decide (5<=op)&&decide (op<=8))=false:=by simp;omega
  have c:(decide (11<=op)&&decide (op<=13))=false:=by simp;omega
  have d:(decide (18<=op)&&decide (op<=21))=false:=by simp;omega
  simp only [Gm,Qh,Qc,Zk,Qe,Zz,Qw,Yd,a,b,c,d,e3,e9,e10,e11,e12,e13,e14,e15,e16,e17,e19,e21];rfl
 have hI:Jk op=false:=by simp [Jk];omega
 rw [hU,hI];clear hU hI h;go_enter Tryz.func161,Tryz.ntmps161;go_wp2;exact bodyPost_ret (v:=.tuple #[.agg #[.bool false,.bool false,.bool false,.bool false,.bool false,.bool false,.int .i64 0],.bool false]) (by simp [results,Tryz.results161,go_sem]) rfl ⟨rfl,Qz.alloc _⟩
theorem Qi0(w:World):
 Calls Tryz.prog 161 #[.int .i64 1] w fun e w'=>e=.returned (.tuple #[Gm 1,.bool (Jk 1)])/\Ext w w':=by
 go_enter Tryz.func161,Tryz.ntmps161;go_wp2;exact bodyPost_ret (v:=.tuple #[.agg #[.bool false,.bool false,.bool false,.bool false,.bool false,.bool false,.int .i64 0],.bool true]) (by simp [results,Tryz.results161,go_sem]) rfl ⟨rfl,Qz.alloc _⟩
theorem Qi1(w:World):
 Calls Tryz.prog 161 #[.int .i64 2] w fun e w'=>e=.returned (.tuple #[Gm 2,.bool (Jk 2)])/\Ext w w':=by
 go_enter Tryz.func161,Tryz.ntmps161;go_wp2;exact bodyPost_ret (v:=.tuple #[.agg #[.bool false,.bool false,.bool false,.bool false,.bool false,.bool false,.int .i64 0],.bool true]) (by simp [results,Tryz.results161,go_sem]) rfl ⟨rfl,Qz.alloc _⟩
theorem Qi2(w:World):
 Calls Tryz.prog 161 #[.int .i64 3] w fun e w'=>e=.returned (.tuple #[Gm 3,.bool (Jk 3)])/\Ext w w':=by
 go_enter Tryz.func161,Tryz.ntmps161;go_wp2;exact bodyPost_ret (v:=.tuple #[.agg #[.bool false,.bool false,.bool true,.bool false,.bool false,.bool false,.int .i64 0],.bool true]) (by simp [results,Tryz.results161,go_sem]) rfl ⟨rfl,Qz.alloc _⟩
theorem Qi3(w:World):
 Calls Tryz.prog 161 #[.int .i64 4] w fun e w'=>e=.returned (.tuple #[Gm 4,.bool (Jk 4)])/\Ext w w':=by
 go_enter Tryz.func161,Tryz.ntmps161;go_wp2;exact bodyPost_ret (v:=.tuple #[.agg #[.bool true,.bool false,.bool false,.bool false,.bool false,.bool false,.int .i64 0],.bool true]) (by simp [results,Tryz.results161,go_sem]) rfl ⟨rfl,Qz.alloc _⟩
theorem Qi4(w:World):
 Calls Tryz.prog 161 #[.int .i64 5] w fun e w'=>e=.returned (.tuple #[Gm 5,.bool (Jk 5)])/\Ext w w':=by
 go_enter Tryz.func161,Tryz.ntmps161;go_wp2;exact bodyPost_ret (v:=.tuple #[.agg #[.bool true,.bool true,.bool false,.bool false,.bool false,.bool false,.int .i64 0],.bool true]) (by simp [results,Tryz.results161,go_sem]) rfl ⟨rfl,Qz.alloc _⟩
theorem Qi5(w:World):
 Calls Tryz.prog 161 #[.int .i64 6] w fun e w'=>e=.returned (.tuple #[Gm 6,.bool (Jk 6)])/\Ext w w':=by
 go_enter Tryz.func161,Tryz.ntmps161;go_wp2;exact bodyPost_ret (v:=.tuple #[.agg #[.bool true,.bool true,.bool false,.bool false,.bool false,.bool false,.int .i64 0],.bool true]) (by simp [results,Tryz.results161,go_sem]) rfl ⟨rfl,Qz.alloc _⟩
theorem Qi6(w:World):
 Calls Tryz.prog 161 #[.int .i64 7] w fun e w'=>e=.returned (.tuple #[Gm 7,.bool (Jk 7)])/\Ext w w':=by
 go_enter Tryz.func161,Tryz.ntmps161;go_wp2;exact bodyPost_ret (v:=.tuple #[.agg #[.bool true,.bool true,.bool false,.bool false,.bool false,.bool false,.int .i64 0],.bool true]) (by simp [results,Tryz.results161,go_sem]) rfl ⟨rfl,Qz.alloc _⟩
theorem Qi7(w:World):
 Calls Tryz.prog 161 #[.int .i64 8] w fun e w'=>e=.returned (.tuple #[Gm 8,.bool (Jk 8)])/\Ext w w':=by
 go_enter Tryz.func161,Tryz.ntmps161;go_wp2;exact bodyPost_ret (v:=.tuple #[.agg #[.bool true,.bool true,.bool false,.bool false,.bool false,.bool false,.int .i64 0],.bool true]) (by simp [results,Tryz.results161,go_sem]) rfl ⟨rfl,Qz.alloc _⟩
theorem Qi8(w:World):
 Calls Tryz.prog 161 #[.int .i64 9] w fun e w'=>e=.returned (.tuple #[Gm 9,.bool (Jk 9)])/\Ext w w':=by
 go_enter Tryz.func161,Tryz.ntmps161;go_wp2;exact bodyPost_ret (v:=.tuple #[.agg #[.bool true,.bool false,.bool false,.bool true,.bool false,.bool false,.int .i64 1],.bool true]) (by simp [results,Tryz.results161,go_sem]) rfl ⟨rfl,Qz.alloc _⟩
theorem Qw3(w:World):
 Calls Tryz.prog 161 #[.int .i64 10] w fun e w'=>e=.returned (.tuple #[Gm 10,.bool (Jk 10)])/\Ext w w':=by
 go_enter Tryz.func161,Tryz.ntmps161;go_wp2;exact bodyPost_ret (v:=.tuple #[.agg #[.bool true,.bool false,.bool false,.bool true,.bool false,.bool false,.int .i64 1],.bool true]) (by simp [results,Tryz.results161,go_sem]) rfl ⟨rfl,Qz.alloc _⟩
theorem Qw4(w:World):
 Calls Tryz.prog 161 #[.int .i64 11] w fun e w'=>e=.returned (.tuple #[Gm 11,.bool (Jk 11)])/\Ext w w':=by
 go_enter Tryz.func161,Tryz.ntmps161;go_wp2;exact bodyPost_ret (v:=.tuple #[.agg #[.bool true,.bool false,.bool false,.bool false,.bool true,.bool false,.int .i64 2],.bool true]) (by simp [results,Tryz.results161,go_sem]) rfl ⟨rfl,Qz.alloc _⟩
theorem Qw5(w:World):
 Calls Tryz.prog 161 #[.int .i64 12] w fun e w'=>e=.returned (.tuple #[Gm 12,.bool (Jk 12)])/\Ext w w':=by
 go_enter Tryz.func161,Tryz.ntmps161;go_wp2;exact bodyPost_ret (v:=.tuple #[.agg #[.bool true,.bool false,.bool false,.bool false,.bool true,.bool false,.int .i64 4],.bool true]) (by simp [results,Tryz.results161,go_sem]) rfl ⟨rfl,Qz.alloc _⟩
theorem Qw6(w:World):
 Calls Tryz.prog 161 #[.int .i64 13] w fun e w'=>e=.returned (.tuple #[Gm 13,.bool (Jk 13)])/\Ext w w':=by
 go_enter Tryz.func161,Tryz.ntmps161;go_wp2;exact bodyPost_ret (v:=.tuple #[.agg #[.bool true,.bool true,.bool false,.bool false,.bool true,.bool false,.int .i64 8],.bool true]) (by simp [results,Tryz.results161,go_sem]) rfl ⟨rfl,Qz.alloc _⟩
theorem Qw7(w:World):
 Calls Tryz.prog 161 #[.int .i64 14] w fun e w'=>e=.returned (.tuple #[Gm 14,.bool (Jk 14)])/\Ext w w':=by
 go_enter Tryz.func161,Tryz.ntmps161;go_wp2;exact bodyPost_ret (v:=.tuple #[.agg #[.bool true,.bool true,.bool false,.bool true,.bool false,.bool false,.int .i64 16],.bool true]) (by simp [results,Tryz.results161,go_sem]) rfl ⟨rfl,Qz.alloc _⟩
theorem Qw8(w:World):
 Calls Tryz.prog 161 #[.int .i64 15] w fun e w'=>e=.returned (.tuple #[Gm 15,.bool (Jk 15)])/\Ext w w':=by
 go_enter Tryz.func161,Tryz.ntmps161;go_wp2;exact bodyPost_ret (v:=.tuple #[.agg #[.bool true,.bool false,.bool false,.bool true,.bool false,.bool false,.int .i64 32],.bool true]) (by simp [results,Tryz.results161,go_sem]) rfl ⟨rfl,Qz.alloc _⟩
theorem Qw9(w:World):
 Calls Tryz.prog 161 #[.int .i64 16] w fun e w'=>e=.returned (.tuple #[Gm 16,.bool (Jk 16)])/\Ext w w':=by
 go_enter Tryz.func161,Tryz.ntmps161;go_wp2;exact bodyPost_ret (v:=.tuple #[.agg #[.bool true,.bool true,.bool false,.bool false,.bool false,.bool false,.int .i64 64],.bool true]) (by simp [results,Tryz.results161,go_sem]) rfl ⟨rfl,Qz.alloc _⟩
theorem Qoq(w:World):
 Calls Tryz.prog 161 #[.int .i64 17] w fun e w'=>e=.returned (.tuple #[Gm 17,.bool (Jk 17)])/\Ext w w':=by
 go_enter Tryz.func161,Tryz.ntmps161;go_wp2;exact bodyPost_ret (v:=.tuple #[.agg #[.bool true,.bool false,.bool false,.bool false,.bool false,.bool true,.int .i64 128],.bool true]) (by simp [results,Tryz.results161,go_sem]) rfl ⟨rfl,Qz.alloc _⟩
theorem Qoz(w:World):
 Calls Tryz.prog 161 #[.int .i64 18] w fun e w'=>e=.returned (.tuple #[Gm 18,.bool (Jk 18)])/\Ext w w':=by
 go_enter Tryz.func161,Tryz.ntmps161;go_wp2;exact bodyPost_ret (v:=.tuple #[.agg #[.bool true,.bool false,.bool false,.bool false,.bool false,.bool false,.int .i64 256],.bool true]) (by simp [results,Tryz.results161,go_sem]) rfl ⟨rfl,Qz.alloc _⟩
theorem Qoj(w:World):
 Calls Tryz.prog 161 #[.int .i64 19] w fun e w'=>e=.returned (.tuple #[Gm 19,.bool (Jk 19)])/\Ext w w':=by
 go_enter Tryz.func161,Tryz.ntmps161;go_wp2;exact bodyPost_ret (v:=.tuple #[.agg #[.bool true,.bool true,.bool false,.bool false,.bool false,.bool false,.int .i64 256],.bool true]) (by simp [results,Tryz.results161,go_sem]) rfl ⟨rfl,Qz.alloc _⟩
theorem Qoy(w:World):
 Calls Tryz.prog 161 #[.int .i64 20] w fun e w'=>e=.returned (.tuple #[Gm 20,.bool (Jk 20)])/\Ext w w':=by
 go_enter Tryz.func161,Tryz.ntmps161;go_wp2;exact bodyPost_ret (v:=.tuple #[.agg #[.bool true,.bool false,.bool false,.bool false,.bool false,.bool false,.int .i64 256],.bool true]) (by simp [results,Tryz.results161,go_sem]) rfl ⟨rfl,Qz.alloc _⟩
theorem Qov(w:World):
 Calls Tryz.prog 161 #[.int .i64 21] w fun e w'=>e=.returned (.tuple #[Gm 21,.bool (Jk 21)])/\Ext w w':=by
 go_enter Tryz.func161,Tryz.ntmps161;go_wp2;exact bodyPost_ret (v:=.tuple #[.agg #[.bool true,.bool true,.bool false,.bool false,.bool false,.bool false,.int .i64 256],.bool true]) (by simp [results,Tryz.results161,go_sem]) rfl ⟨rfl,Qz.alloc _⟩
theorem Qho(op:Int)(w:World):
 Calls Tryz.prog 161 #[.int .i64 op] w fun e w'=>e=.returned (.tuple #[Gm op,.bool (Jk op)])/\Ext w w':=by
 rcases Dn op with h|h|h|h|h|h|h|h|h|h|h|h|h|h|h|h|h|h|h|h|h|h|h
 ·exact Qf5 op w (.inl h)
 ·exact Qf5 op w (.inr h)
 ·rw [h];exact Qi0 w
 ·rw [h];exact Qi1 w
 ·rw [h];exact Qi2 w
 ·rw [h];exact Qi3 w
 ·rw [h];exact Qi4 w
 ·rw [h];exact Qi5 w
 ·rw [h];exact Qi6 w
 ·rw [h];exact Qi7 w
 ·rw [h];exact Qi8 w
 ·rw [h];exact Qw3 w
 ·rw [h];exact Qw4 w
 ·rw [h];exact Qw5 w
 ·rw [h];exact Qw6 w
 ·rw [h];exact Qw7 w
 ·rw [h];exact Qw8 w
 ·rw [h];exact Qw9 w
 ·rw [h];exact Qoq w
 ·rw [h];exact Qoz w
 ·rw [h];exact Qoj w
 ·rw [h];exact Qoy w
 rw [h];exact Qov w
theorem Qba(u:Bool)(field at_:Int)(w:World):
 Calls Tryz.prog 167 #[.bool u,.int .i64 field,.int .i64 at_] w fun e w'=>e=.returned (.bool (Qs u field at_))/\w=w':=by
 cases u
 ·go_enter Tryz.func167,Tryz.ntmps167;go_wp2;go_ret;exact⟨rfl,rfl⟩
 by_cases h:0<=field
 ·go_enter Tryz.func167,Tryz.ntmps167;go_wp2
  all_goals
   go_ret;refine⟨?_,rfl⟩;simp [Qs];omega
 go_enter Tryz.func167,Tryz.ntmps167;go_wp2
 all_goals
  go_ret;refine⟨?_,rfl⟩;simp [Qs];omega
theorem Qbe(u:Bool)(v low high:Int)(w:World):
 Calls Tryz.prog 168 #[.bool u,.int .i64 v,.int .i64 low,.int .i64 high] w fun e w'=>e=.returned (.bool (Qr u v low high))/\w=w':=by
 cases u
 ·go_enter Tryz.func168,Tryz.ntmps168;go_wp2;go_ret;exact⟨rfl,rfl⟩
 by_cases h:v < low
 ·go_enter Tryz.func168,Tryz.ntmps168;go_wp2
  all_goals
   go_ret;refine⟨?_,rfl⟩;simp [Qr];omega
 go_enter Tryz.func168,Tryz.ntmps168;go_wp2
 all_goals
  go_ret;refine⟨?_,rfl⟩;simp [Qr];omega
theorem Yn(op:Int)(ux uy uf ua ug ue o:Bool)(hx:Qh op=ux)(hy:Qc op=uy)(hf:Zk op=uf)(ha:Qe op=ua)(hg:Zz op=ug)(he:Qw op=ue)(ho:Jk op=o)(w:World):
 Calls Tryz.prog 161 #[.int .i64 op] w fun e w'=>e=.returned (.tuple #[.agg #[.bool ux,.bool uy,.bool uf,.bool ua,.bool ug,.bool ue,.int .i64 (Yd op)],.bool o])/\Ext w w':=by
 subst hx hy hf ha hg he ho;exact Qho op w
theorem Qyl(n:Nd)(at_:Int)(w:World)(h:Jk n.op=false):
 Calls Tryz.prog 102 #[n.val,.int .i64 at_] w fun e w'=>e=.returned (.int .i64 10)/\Ext w w':=by
 unfold Nd.val;have H:=Qq h;clear h;go_enter Tryz.func102,Tryz.ntmps102;go_wp2_with(go_at_call 161;refine(Yn _ _ _ _ _ _ _ _ rfl rfl rfl rfl rfl rfl H.out _).mono ?_;rintro e w1 ⟨rfl,hb⟩);go_ret;exact⟨rfl,((Qz.alloc _).trans hb).alloc _⟩
theorem Zb(u:Bool)(field at_:Int)(r:Bool)(h:Qs u field at_=r)(w:World):
 Calls Tryz.prog 167 #[.bool u,.int .i64 field,.int .i64 at_] w fun e w'=>e=.returned (.bool r)/\w=w':=by
 subst h;exact Qba u field at_ w
theorem Zo(u:Bool)(v low high:Int)(r:Bool)(h:Qr u v low high=r)(w:World):
 Calls Tryz.prog 168 #[.bool u,.int .i64 v,.int .i64 low,.int .i64 high] w fun e w'=>e=.returned (.bool r)/\w=w':=by
 subst h;exact Qbe u v low high w
end Go.Proofs.YtkmclcmnoicagaaGreatDoor
