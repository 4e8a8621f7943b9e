/- The formulas of the language as plain Lean data: nodes, the fields that operators use, the error of a node and of a list. No program in sight. -/
import Derived.WalkKit
import Derived.Lib.Hide
import Derived.Laws.OwnMore
import Derived.Deep.AppendLies
import Derived.Deep.Draws
import Derived.Test.YtmidgcldljfkcaaGreatDoorProg
import Derived.WalkSpells
import Derived.WalkLawsBesides
import Derived.Deep.QuietTactic
import Derived.BigQuiet
namespace Go.Proofs.YtmidgcldljfkcaaGreatDoor
set_option maxRecDepth 100000
set_option maxHeartbeats 128000000
theorem Qq {p:Prop}(h:p):Go.RowKit.Hid p:=Lib.hid h
theorem Qy {a b c:Nat}(h:a < b)(k:b<=c):a < c:=Nat.lt_of_lt_of_le h k
theorem Qv {α:Type _} {l:List α} {i:Nat}(h:i < l.length):l[i]?=some l[i]:=List.getElem?_eq_getElem h
theorem Qk {α:Type _} {l:List α} {i:Nat} {a:α} :l.getD i a=l[i]?.getD a:=List.getD_eq_getElem?_getD
theorem Qx {a b c:Nat}(h:a<=b)(k:b<=c):a<=c:=Nat.le_trans h k
open Go.RowKit
structure Nd where
 op:Int
 i:Int
 e:Int
 g:Int
 x:Int
 y:Int
deriving DecidableEq
def Nd.cells(n:Nd):List Value:= [.int .i64 n.op,.int .i64 n.i,.int .i64 n.e,.int .i64 n.g,.int .i64 n.x,.int .i64 n.y]
def Nd.val(n:Nd):Value:=.agg #[.int .i64 n.op,.int .i64 n.i,.int .i64 n.e,.int .i64 n.g,.int .i64 n.x,.int .i64 n.y]
def Jl(op:Int):Bool:=decide (1<=op)&&decide (op<=21)
def Qw(op:Int):Bool:=decide (4<=op)&&decide (op<=21)
def Qa(op:Int):Bool:=(decide (5<=op)&&decide (op<=8))||op==13||op==14||op==16||op==19||op==21
def Zw(op:Int):Bool:=op==3
def Zy(op:Int):Bool:=op==9||op==10||op==14||op==15
def Zb(op:Int):Bool:=decide (11<=op)&&decide (op<=13)
def Zl(op:Int):Bool:=op==17
def Kv(op:Int):Int :=
 if op==9||op==10 then 1 else if op==11 then 2 else if op==12 then 4 else if op==13 then 8 else if op==14 then 16 else if op==15 then 32
 else if op==16 then 64 else if op==17 then 128 else if decide (18<=op)&&decide (op<=21)then 256 else 0
def Gs(op:Int):Value :=
 .agg #[.bool (Qw op),.bool (Qa op),.bool (Zw op),.bool (Zy op),.bool (Zb op),.bool (Zl op),.int .i64 (Kv op)]
def Qh(used:Bool)(field at_:Int):Bool:=bif used then decide (0<=field)&&decide (field < at_)else field==0
def Jz(used:Bool)(v low high:Int):Bool:=used&&(decide (v < low)||decide (high < v))
def Yf(n:Nd):Bool:=(!(Zw n.op||Zy n.op||Zl n.op)&&n.i !=0)||(!Zl n.op&&n.e !=0)||(!Zb n.op&&n.g !=0)
def Yk(n:Nd):Bool :=
 Jz (Zw n.op) n.i 0 7||Jz (Zy n.op) n.i 0 3||Jz (Zl n.op) n.i 0 7||Jz (Zl n.op) n.e 0 7||Jz (Zb n.op) n.g 1 15
def Zz(n:Nd)(at_:Int):Int :=
 bif !Jl n.op then 10 else bif !Qh (Qw n.op) n.x at_|| !Qh (Qa n.op) n.y at_ then 3 else bif Yf n then 3 else bif Yk n then 2 else 0
theorem Hf(op:Int):op<=0\/22<=op\/op=1\/op=2\/op=3\/op=4\/op=5\/op=6\/op=7\/op=8\/op=9\/op=10\/op=11\/op=12\/op=13\/op=14\/op=15\/op=16\/op=17\/op=18\/op=19\/op=20\/op=21:=by omega
theorem Mx(op:Int):Jl op=true↔1<=op/\op<=21:=by simp [Jl]
theorem Qe9(op:Int):(Zw op=false/\Zy op=false/\Zb op=false/\Zl op=false)\/(Zw op=true/\Zy op=false/\Zb op=false/\Zl op=false)\/
 (Zw op=false/\Zy op=true/\Zb op=false/\Zl op=false)\/(Zw op=false/\Zy op=false/\Zb op=true/\Zl op=false)\/
 (Zw op=false/\Zy op=false/\Zb op=false/\Zl op=true):=by
 rcases Hf op with h|h|h|h|h|h|h|h|h|h|h|h|h|h|h|h|h|h|h|h|h|h|h
 ·left;simp [Zw,Zy,Zb,Zl];omega
 ·left;simp [Zw,Zy,Zb,Zl];omega
 all_goals(subst h;decide)
def Yt:List Nd->Int->Int
 |[],_=>0
 |n :: r,a=>bif Zz n a !=0 then Zz n a else Yt r (a+1)
def Qs(l:List Nd):Int:=bif decide (l.length=0)then 3 else bif decide (200 < l.length)then 8 else Yt l 0
theorem Qz8(l:List Nd)(k:Nat)(n:Nd)(h:l[k]?=some n):
 Yt (l.drop k) k=bif Zz n k !=0 then Zz n k else Yt (l.drop (k+1)) ((k+1:Nat):Int):=by
 obtain⟨hk,rfl⟩:=List.getElem?_eq_some_iff.1 h;rw [List.drop_eq_getElem_cons hk];rfl
def Ext(w w':World):Prop:=Below w.heap.size w w'
section
variable {a b c w:World}
theorem Ext.refl(w:World):Ext w w:=Below.refl _ _
theorem Ext.size(h:Ext a b):a.heap.size<=b.heap.size:=Below.size h
theorem Ext.trans(h:Ext a b)(k:Ext b c):Ext a c:=Below.trans h (Below.mono k h.size)
theorem Ext.alloc(h:Ext a b)(o:Obj):Ext a (b.alloc o):=Below.alloc h h.size o
theorem Ext.drew(h:Ext a b):Ext a b.drew:=Below.drew h
theorem Ext.drewN(h:Ext a b)(n:Nat):Ext a (b.drewN n):=⟨h.os,h.tape,h.output,h.size,h.block⟩
theorem Ext.setCell(h:Ext a b) {p:Addr}(hp:a.heap.size<=p.block)(u:Value):Ext a (b.setCell p u):=Below.setCell h hp u
theorem Ext.grown(h:Ext a b) {row:Option Nat}(hg:b.grownBy c row)(hr:∀k,row=some k->a.heap.size<=k):Ext a c:=Below.grown h hg h.size hr
theorem Ext.cell(h:Ext a b) {p:Addr}(hp:p.block < a.heap.size):b.cell? p=a.cell? p:=Below.cell h hp
theorem Ext.frozen(h:Ext a b) {p:Addr}(hp:p.block < a.heap.size):b.frozen? p=a.frozen? p:=Below.frozen h hp
theorem Ext.block(h:Ext a b) {k:Nat}(hk:k < a.heap.size):b.heap[k]?=a.heap[k]?:=Below.block h k hk
theorem Ext.facts(h:Ext a b):(∀k o,k < a.heap.size->b.cell? ⟨k,o,none⟩=a.cell? ⟨k,o,none⟩)/\(∀k o,k < a.heap.size->b.frozen? ⟨k,o,none⟩=a.frozen? ⟨k,o,none⟩)/\a.heap.size<=b.heap.size :=
 ⟨fun _ _ hk=>h.cell hk,fun _ _ hk=>h.frozen hk,h.size⟩
end
theorem Qz {w:World} :Ext w w:=Ext.refl w
theorem Qvf(op:Int)(w:World)(h:op<=0\/22<=op):
 Calls Tryz.prog 61 #[.int .i64 op] w fun e w'=>e=.returned (.tuple #[Gs op,.bool (Jl op)])/\Ext w w':=by
 have e1:(op==1)=false:=by simp;omega
 have e2:(op==2)=false:=by simp;omega
 have e3:(op==3)=false:=by simp;omega
 have e4:(op==4)=false:=by simp;omega
 have e5:(op==5)=false:=by simp;omega
 have e6:(op==6)=false:=by simp;omega
 have e7:(op==7)=false:=by simp;omega
 have e8:(op==8)=false:=by simp;omega
 have e9:(op==9)=false:=by simp;omega
 have e10:(op==10)=false:=by simp;omega
 have e11:(op==11)=false:=by simp;omega
 have e12:(op==12)=false:=by simp;omega
 have e13:(op==13)=false:=by simp;omega
 have e14:(op==14)=false:=by simp;omega
 have e15:(op==15)=false:=by simp;omega
 have e16:(op==16)=false:=by simp;omega
 have e17:(op==17)=false:=by simp;omega
 have e18:(op==18)=false:=by simp;omega
 have e19:(op==19)=false:=by simp;omega
 have e20:(op==20)=false:=by simp;omega
 have e21:(op==21)=false:=by simp;omega
 have hU:Gs op=.agg #[.bool false,.bool false,.bool false,.bool false,.bool false,.bool false,.int .i64 0]:=by
  have a:(decide (4<=op)&&decide (op<=21))=false:=by simp;omega
  have b:(decide (5<=op)&&decide (op<=8))=false:=by simp;omega
  have c:(decide (11<=op)&&decide (op<=13))=false:=by simp;omega
  have d:(decide (18<=op)&&decide (op<=21))=false:=by simp;omega
  simp only [Gs,Qw,Qa,Zw,Zy,Zb,Zl,Kv,a,b,c,d,e3,e9,e10,e11,e12,e13,e14,e15,e16,e17,e19,e21];rfl
 have hI:Jl op=false:=by simp [Jl];omega
 rw [hU,hI];clear hU hI h;go_enter Tryz.func61,Tryz.ntmps61;go_wp2;exact bodyPost_ret (v:=.tuple #[.agg #[.bool false,.bool false,.bool false,.bool false,.bool false,.bool false,.int .i64 0],.bool false]) (by simp [results,Tryz.results61,go_sem]) rfl ⟨rfl,Qz.alloc _⟩
theorem Qho(w:World):
 Calls Tryz.prog 61 #[.int .i64 1] w fun e w'=>e=.returned (.tuple #[Gs 1,.bool (Jl 1)])/\Ext w w':=by
 go_enter Tryz.func61,Tryz.ntmps61;go_wp2;exact bodyPost_ret (v:=.tuple #[.agg #[.bool false,.bool false,.bool false,.bool false,.bool false,.bool false,.int .i64 0],.bool true]) (by simp [results,Tryz.results61,go_sem]) rfl ⟨rfl,Qz.alloc _⟩
theorem Qh4(w:World):
 Calls Tryz.prog 61 #[.int .i64 2] w fun e w'=>e=.returned (.tuple #[Gs 2,.bool (Jl 2)])/\Ext w w':=by
 go_enter Tryz.func61,Tryz.ntmps61;go_wp2;exact bodyPost_ret (v:=.tuple #[.agg #[.bool false,.bool false,.bool false,.bool false,.bool false,.bool false,.int .i64 0],.bool true]) (by simp [results,Tryz.results61,go_sem]) rfl ⟨rfl,Qz.alloc _⟩
theorem Qag(w:World):
 Calls Tryz.prog 61 #[.int .i64 3] w fun e w'=>e=.returned (.tuple #[Gs 3,.bool (Jl 3)])/\Ext w w':=by
 go_enter Tryz.func61,Tryz.ntmps61;go_wp2;exact bodyPost_ret (v:=.tuple #[.agg #[.bool false,.bool false,.bool true,.bool false,.bool false,.bool false,.int .i64 0],.bool true]) (by simp [results,Tryz.results61,go_sem]) rfl ⟨rfl,Qz.alloc _⟩
theorem Qac(w:World):
 Calls Tryz.prog 61 #[.int .i64 4] w fun e w'=>e=.returned (.tuple #[Gs 4,.bool (Jl 4)])/\Ext w w':=by
 go_enter Tryz.func61,Tryz.ntmps61;go_wp2;exact bodyPost_ret (v:=.tuple #[.agg #[.bool true,.bool false,.bool false,.bool false,.bool false,.bool false,.int .i64 0],.bool true]) (by simp [results,Tryz.results61,go_sem]) rfl ⟨rfl,Qz.alloc _⟩
theorem Qam(w:World):
 Calls Tryz.prog 61 #[.int .i64 5] w fun e w'=>e=.returned (.tuple #[Gs 5,.bool (Jl 5)])/\Ext w w':=by
 go_enter Tryz.func61,Tryz.ntmps61;go_wp2;exact bodyPost_ret (v:=.tuple #[.agg #[.bool true,.bool true,.bool false,.bool false,.bool false,.bool false,.int .i64 0],.bool true]) (by simp [results,Tryz.results61,go_sem]) rfl ⟨rfl,Qz.alloc _⟩
theorem Qab(w:World):
 Calls Tryz.prog 61 #[.int .i64 6] w fun e w'=>e=.returned (.tuple #[Gs 6,.bool (Jl 6)])/\Ext w w':=by
 go_enter Tryz.func61,Tryz.ntmps61;go_wp2;exact bodyPost_ret (v:=.tuple #[.agg #[.bool true,.bool true,.bool false,.bool false,.bool false,.bool false,.int .i64 0],.bool true]) (by simp [results,Tryz.results61,go_sem]) rfl ⟨rfl,Qz.alloc _⟩
theorem Qh9(w:World):
 Calls Tryz.prog 61 #[.int .i64 7] w fun e w'=>e=.returned (.tuple #[Gs 7,.bool (Jl 7)])/\Ext w w':=by
 go_enter Tryz.func61,Tryz.ntmps61;go_wp2;exact bodyPost_ret (v:=.tuple #[.agg #[.bool true,.bool true,.bool false,.bool false,.bool false,.bool false,.int .i64 0],.bool true]) (by simp [results,Tryz.results61,go_sem]) rfl ⟨rfl,Qz.alloc _⟩
theorem Qao(w:World):
 Calls Tryz.prog 61 #[.int .i64 8] w fun e w'=>e=.returned (.tuple #[Gs 8,.bool (Jl 8)])/\Ext w w':=by
 go_enter Tryz.func61,Tryz.ntmps61;go_wp2;exact bodyPost_ret (v:=.tuple #[.agg #[.bool true,.bool true,.bool false,.bool false,.bool false,.bool false,.int .i64 0],.bool true]) (by simp [results,Tryz.results61,go_sem]) rfl ⟨rfl,Qz.alloc _⟩
theorem Qax(w:World):
 Calls Tryz.prog 61 #[.int .i64 9] w fun e w'=>e=.returned (.tuple #[Gs 9,.bool (Jl 9)])/\Ext w w':=by
 go_enter Tryz.func61,Tryz.ntmps61;go_wp2;exact bodyPost_ret (v:=.tuple #[.agg #[.bool true,.bool false,.bool false,.bool true,.bool false,.bool false,.int .i64 1],.bool true]) (by simp [results,Tryz.results61,go_sem]) rfl ⟨rfl,Qz.alloc _⟩
theorem Qpc(w:World):
 Calls Tryz.prog 61 #[.int .i64 10] w fun e w'=>e=.returned (.tuple #[Gs 10,.bool (Jl 10)])/\Ext w w':=by
 go_enter Tryz.func61,Tryz.ntmps61;go_wp2;exact bodyPost_ret (v:=.tuple #[.agg #[.bool true,.bool false,.bool false,.bool true,.bool false,.bool false,.int .i64 1],.bool true]) (by simp [results,Tryz.results61,go_sem]) rfl ⟨rfl,Qz.alloc _⟩
theorem Qm2(w:World):
 Calls Tryz.prog 61 #[.int .i64 11] w fun e w'=>e=.returned (.tuple #[Gs 11,.bool (Jl 11)])/\Ext w w':=by
 go_enter Tryz.func61,Tryz.ntmps61;go_wp2;exact bodyPost_ret (v:=.tuple #[.agg #[.bool true,.bool false,.bool false,.bool false,.bool true,.bool false,.int .i64 2],.bool true]) (by simp [results,Tryz.results61,go_sem]) rfl ⟨rfl,Qz.alloc _⟩
theorem Qp7(w:World):
 Calls Tryz.prog 61 #[.int .i64 12] w fun e w'=>e=.returned (.tuple #[Gs 12,.bool (Jl 12)])/\Ext w w':=by
 go_enter Tryz.func61,Tryz.ntmps61;go_wp2;exact bodyPost_ret (v:=.tuple #[.agg #[.bool true,.bool false,.bool false,.bool false,.bool true,.bool false,.int .i64 4],.bool true]) (by simp [results,Tryz.results61,go_sem]) rfl ⟨rfl,Qz.alloc _⟩
theorem Qpo(w:World):
 Calls Tryz.prog 61 #[.int .i64 13] w fun e w'=>e=.returned (.tuple #[Gs 13,.bool (Jl 13)])/\Ext w w':=by
 go_enter Tryz.func61,Tryz.ntmps61;go_wp2;exact bodyPost_ret (v:=.tuple #[.agg #[.bool true,.bool true,.bool false,.bool false,.bool true,.bool false,.int .i64 8],.bool true]) (by simp [results,Tryz.results61,go_sem]) rfl ⟨rfl,Qz.alloc _⟩
theorem Qhr(w:World):
 Calls Tryz.prog 61 #[.int .i64 14] w fun e w'=>e=.returned (.tuple #[Gs 14,.bool (Jl 14)])/\Ext w w':=by
 go_enter Tryz.func61,Tryz.ntmps61;go_wp2;exact bodyPost_ret (v:=.tuple #[.agg #[.bool true,.bool true,.bool false,.bool true,.bool false,.bool false,.int .i64 16],.bool true]) (by simp [results,Tryz.results61,go_sem]) rfl ⟨rfl,Qz.alloc _⟩
theorem Qcj(w:World):
 Calls Tryz.prog 61 #[.int .i64 15] w fun e w'=>e=.returned (.tuple #[Gs 15,.bool (Jl 15)])/\Ext w w':=by
 go_enter Tryz.func61,Tryz.ntmps61;go_wp2;exact bodyPost_ret (v:=.tuple #[.agg #[.bool true,.bool false,.bool false,.bool true,.bool false,.bool false,.int .i64 32],.bool true]) (by simp [results,Tryz.results61,go_sem]) rfl ⟨rfl,Qz.alloc _⟩
theorem Qci(w:World):
 Calls Tryz.prog 61 #[.int .i64 16] w fun e w'=>e=.returned (.tuple #[Gs 16,.bool (Jl 16)])/\Ext w w':=by
 go_enter Tryz.func61,Tryz.ntmps61;go_wp2;exact bodyPost_ret (v:=.tuple #[.agg #[.bool true,.bool true,.bool false,.bool false,.bool false,.bool false,.int .i64 64],.bool true]) (by simp [results,Tryz.results61,go_sem]) rfl ⟨rfl,Qz.alloc _⟩
theorem Qpv(w:World):
 Calls Tryz.prog 61 #[.int .i64 17] w fun e w'=>e=.returned (.tuple #[Gs 17,.bool (Jl 17)])/\Ext w w':=by
 go_enter Tryz.func61,Tryz.ntmps61;go_wp2;exact bodyPost_ret (v:=.tuple #[.agg #[.bool true,.bool false,.bool false,.bool false,.bool false,.bool true,.int .i64 128],.bool true]) (by simp [results,Tryz.results61,go_sem]) rfl ⟨rfl,Qz.alloc _⟩
theorem Qc7(w:World):
 Calls Tryz.prog 61 #[.int .i64 18] w fun e w'=>e=.returned (.tuple #[Gs 18,.bool (Jl 18)])/\Ext w w':=by
 go_enter Tryz.func61,Tryz.ntmps61;go_wp2;exact bodyPost_ret (v:=.tuple #[.agg #[.bool true,.bool false,.bool false,.bool false,.bool false,.bool false,.int .i64 256],.bool true]) (by simp [results,Tryz.results61,go_sem]) rfl ⟨rfl,Qz.alloc _⟩
theorem Qm6(w:World):
 Calls Tryz.prog 61 #[.int .i64 19] w fun e w'=>e=.returned (.tuple #[Gs 19,.bool (Jl 19)])/\Ext w w':=by
 go_enter Tryz.func61,Tryz.ntmps61;go_wp2;exact bodyPost_ret (v:=.tuple #[.agg #[.bool true,.bool true,.bool false,.bool false,.bool false,.bool false,.int .i64 256],.bool true]) (by simp [results,Tryz.results61,go_sem]) rfl ⟨rfl,Qz.alloc _⟩
theorem Qm1(w:World):
 Calls Tryz.prog 61 #[.int .i64 20] w fun e w'=>e=.returned (.tuple #[Gs 20,.bool (Jl 20)])/\Ext w w':=by
 go_enter Tryz.func61,Tryz.ntmps61;go_wp2;exact bodyPost_ret (v:=.tuple #[.agg #[.bool true,.bool false,.bool false,.bool false,.bool false,.bool false,.int .i64 256],.bool true]) (by simp [results,Tryz.results61,go_sem]) rfl ⟨rfl,Qz.alloc _⟩
theorem Qpz(w:World):
 Calls Tryz.prog 61 #[.int .i64 21] w fun e w'=>e=.returned (.tuple #[Gs 21,.bool (Jl 21)])/\Ext w w':=by
 go_enter Tryz.func61,Tryz.ntmps61;go_wp2;exact bodyPost_ret (v:=.tuple #[.agg #[.bool true,.bool true,.bool false,.bool false,.bool false,.bool false,.int .i64 256],.bool true]) (by simp [results,Tryz.results61,go_sem]) rfl ⟨rfl,Qz.alloc _⟩
theorem Qmf(op:Int)(w:World):
 Calls Tryz.prog 61 #[.int .i64 op] w fun e w'=>e=.returned (.tuple #[Gs op,.bool (Jl op)])/\Ext w w':=by
 rcases Hf op with h|h|h|h|h|h|h|h|h|h|h|h|h|h|h|h|h|h|h|h|h|h|h
 ·exact Qvf op w (.inl h)
 ·exact Qvf op w (.inr h)
 ·rw [h];exact Qho w
 ·rw [h];exact Qh4 w
 ·rw [h];exact Qag w
 ·rw [h];exact Qac w
 ·rw [h];exact Qam w
 ·rw [h];exact Qab w
 ·rw [h];exact Qh9 w
 ·rw [h];exact Qao w
 ·rw [h];exact Qax w
 ·rw [h];exact Qpc w
 ·rw [h];exact Qm2 w
 ·rw [h];exact Qp7 w
 ·rw [h];exact Qpo w
 ·rw [h];exact Qhr w
 ·rw [h];exact Qcj w
 ·rw [h];exact Qci w
 ·rw [h];exact Qpv w
 ·rw [h];exact Qc7 w
 ·rw [h];exact Qm6 w
 ·rw [h];exact Qm1 w
 rw [h];exact Qpz w
theorem Qgq(u:Bool)(field at_:Int)(w:World):
 Calls Tryz.prog 98 #[.bool u,.int .i64 field,.int .i64 at_] w fun e w'=>e=.returned (.bool (Qh u field at_))/\w=w':=by
 cases u
 ·go_enter Tryz.func98,Tryz.ntmps98;go_wp2;go_ret;exact⟨rfl,rfl⟩
 by_cases h:0<=field
 ·go_enter Tryz.func98,Tryz.ntmps98;go_wp2
  all_goals
   go_ret;refine⟨?_,rfl⟩;simp [Qh];omega
 go_enter Tryz.func98,Tryz.ntmps98;go_wp2
 all_goals
  go_ret;refine⟨?_,rfl⟩;simp [Qh];omega
theorem Qgz(u:Bool)(v low high:Int)(w:World):
 Calls Tryz.prog 99 #[.bool u,.int .i64 v,.int .i64 low,.int .i64 high] w fun e w'=>e=.returned (.bool (Jz u v low high))/\w=w':=by
 cases u
 ·go_enter Tryz.func99,Tryz.ntmps99;go_wp2;go_ret;exact⟨rfl,rfl⟩
 by_cases h:v < low
 ·go_enter Tryz.func99,Tryz.ntmps99;go_wp2
  all_goals
   go_ret;refine⟨?_,rfl⟩;simp [Jz];omega
 go_enter Tryz.func99,Tryz.ntmps99;go_wp2
 all_goals
  go_ret;refine⟨?_,rfl⟩;simp [Jz];omega
theorem Jw(op:Int)(ux uy uf ua ug ue o:Bool)(hx:Qw op=ux)(hy:Qa op=uy)(hf:Zw op=uf)(ha:Zy op=ua)(hg:Zb op=ug)(he:Zl op=ue)(ho:Jl op=o)(w:World):
 Calls Tryz.prog 61 #[.int .i64 op] w fun e w'=>e=.returned (.tuple #[.agg #[.bool ux,.bool uy,.bool uf,.bool ua,.bool ug,.bool ue,.int .i64 (Kv op)],.bool o])/\Ext w w':=by
 subst hx hy hf ha hg he ho;exact Qmf op w
theorem Qzh(n:Nd)(at_:Int)(w:World)(h:Jl n.op=false):
 Calls Tryz.prog 62 #[n.val,.int .i64 at_] w fun e w'=>e=.returned (.int .i64 10)/\Ext w w':=by
 unfold Nd.val;have H:=Qq h;clear h;go_enter Tryz.func62,Tryz.ntmps62;go_wp2_with(go_at_call 61;refine(Jw _ _ _ _ _ _ _ _ rfl rfl rfl rfl rfl rfl H.out _).mono ?_;rintro e w1 ⟨rfl,hb⟩);go_ret;exact⟨rfl,((Qz.alloc _).trans hb).alloc _⟩
theorem Zj(u:Bool)(field at_:Int)(r:Bool)(h:Qh u field at_=r)(w:World):
 Calls Tryz.prog 98 #[.bool u,.int .i64 field,.int .i64 at_] w fun e w'=>e=.returned (.bool r)/\w=w':=by
 subst h;exact Qgq u field at_ w
theorem Zp(u:Bool)(v low high:Int)(r:Bool)(h:Jz u v low high=r)(w:World):
 Calls Tryz.prog 99 #[.bool u,.int .i64 v,.int .i64 low,.int .i64 high] w fun e w'=>e=.returned (.bool r)/\w=w':=by
 subst h;exact Qgz u v low high w
theorem Ii(n:Nd)(at_:Int)(w:World)(ho:Jl n.op=true)(hf:Zw n.op=false)(ha:Zy n.op=false)(hg0:Zb n.op=false)(he0:Zl n.op=false)
 (hx:Qh (Qw n.op) n.x at_=true)(hy:Qh (Qa n.op) n.y at_=true)(hi:(n.i !=0)=true):
 Calls Tryz.prog 62 #[n.val,.int .i64 at_] w fun e w'=>e=.returned (.int .i64 3)/\Ext w w':=by
 unfold Nd.val;have HO:=Qq ho;have HF:=Qq hf;have HA:=Qq ha;have HG:=Qq hg0;have HE:=Qq he0;have HX:=Qq hx;have HY:=Qq hy;clear ho hf ha hg0 he0 hx hy;go_enter Tryz.func62,Tryz.ntmps62;go_wp2_with(first|(go_at_call 61;refine(Jw _ _ _ _ _ _ _ _ rfl rfl HF.out HA.out HG.out HE.out HO.out _).mono ?_;rintro e w1 ⟨rfl,hb⟩;obtain⟨hc,hfr,hz0⟩:=hb.facts;have hz:w.heap.size < w1.heap.size:=by { simp at hz0;omega };clear hz0)|(go_at_call 98;(with_reducible refine(Zj _ _ _ true HX.out _).mono ?_);rintro e w' ⟨rfl,rfl⟩)|(go_at_call 98;(with_reducible refine(Zj _ _ _ true HY.out _).mono ?_);rintro e w' ⟨rfl,rfl⟩)|(go_at_call 99;(with_reducible refine(Zp false _ _ _ false rfl _).mono ?_);rintro e w' ⟨rfl,rfl⟩))
 go_ret;exact⟨rfl,((Qz.alloc _).trans hb).alloc _⟩
theorem Io(n:Nd)(at_:Int)(w:World)(ho:Jl n.op=true)(hf:Zw n.op=false)(ha:Zy n.op=false)(hg0:Zb n.op=false)(he0:Zl n.op=false)
 (hx:Qh (Qw n.op) n.x at_=true)(hy:Qh (Qa n.op) n.y at_=true)(hi:n.i=0)(he:(n.e !=0)=true):
 Calls Tryz.prog 62 #[n.val,.int .i64 at_] w fun e w'=>e=.returned (.int .i64 3)/\Ext w w':=by
 unfold Nd.val;rw [hi];have HO:=Qq ho;have HF:=Qq hf;have HA:=Qq ha;have HG:=Qq hg0;have HE:=Qq he0;have HX:=Qq hx;have HY:=Qq hy;clear hi ho hf ha hg0 he0 hx hy;go_enter Tryz.func62,Tryz.ntmps62;go_wp2_with(first|(go_at_call 61;refine(Jw _ _ _ _ _ _ _ _ rfl rfl HF.out HA.out HG.out HE.out HO.out _).mono ?_;rintro e w1 ⟨rfl,hb⟩;obtain⟨hc,hfr,hz0⟩:=hb.facts;have hz:w.heap.size < w1.heap.size:=by { simp at hz0;omega };clear hz0)|(go_at_call 98;(with_reducible refine(Zj _ _ _ true HX.out _).mono ?_);rintro e w' ⟨rfl,rfl⟩)|(go_at_call 98;(with_reducible refine(Zj _ _ _ true HY.out _).mono ?_);rintro e w' ⟨rfl,rfl⟩)|(go_at_call 99;(with_reducible refine(Zp false _ _ _ false rfl _).mono ?_);rintro e w' ⟨rfl,rfl⟩))
 go_ret;exact⟨rfl,((Qz.alloc _).trans hb).alloc _⟩
theorem Qqx(n:Nd)(at_:Int)(w:World)(ho:Jl n.op=true)(hf:Zw n.op=false)(ha:Zy n.op=false)(hg0:Zb n.op=false)(he0:Zl n.op=false)
 (hx:Qh (Qw n.op) n.x at_=true)(hy:Qh (Qa n.op) n.y at_=true)(hi:n.i=0)(he:n.e=0)(hg:(n.g !=0)=true):
 Calls Tryz.prog 62 #[n.val,.int .i64 at_] w fun e w'=>e=.returned (.int .i64 3)/\Ext w w':=by
 unfold Nd.val;rw [hi,he];have HO:=Qq ho;have HF:=Qq hf;have HA:=Qq ha;have HG:=Qq hg0;have HE:=Qq he0;have HX:=Qq hx;have HY:=Qq hy;clear hi he ho hf ha hg0 he0 hx hy;go_enter Tryz.func62,Tryz.ntmps62;go_wp2_with(first|(go_at_call 61;refine(Jw _ _ _ _ _ _ _ _ rfl rfl HF.out HA.out HG.out HE.out HO.out _).mono ?_;rintro e w1 ⟨rfl,hb⟩;obtain⟨hc,hfr,hz0⟩:=hb.facts;have hz:w.heap.size < w1.heap.size:=by { simp at hz0;omega };clear hz0)|(go_at_call 98;(with_reducible refine(Zj _ _ _ true HX.out _).mono ?_);rintro e w' ⟨rfl,rfl⟩)|(go_at_call 98;(with_reducible refine(Zj _ _ _ true HY.out _).mono ?_);rintro e w' ⟨rfl,rfl⟩)|(go_at_call 99;(with_reducible refine(Zp false _ _ _ false rfl _).mono ?_);rintro e w' ⟨rfl,rfl⟩))
 go_ret;exact⟨rfl,((Qz.alloc _).trans hb).alloc _⟩
theorem Of(n:Nd)(at_:Int)(w:World)(ho:Jl n.op=true)(hf:Zw n.op=false)(ha:Zy n.op=false)(hg0:Zb n.op=false)(he0:Zl n.op=false)
 (hx:Qh (Qw n.op) n.x at_=true)(hy:Qh (Qa n.op) n.y at_=true)(hi:n.i=0)(he:n.e=0)(hg:n.g=0):
 Calls Tryz.prog 62 #[n.val,.int .i64 at_] w fun e w'=>e=.returned (.int .i64 0)/\Ext w w':=by
 unfold Nd.val;rw [hi,he,hg];have HO:=Qq ho;have HF:=Qq hf;have HA:=Qq ha;have HG:=Qq hg0;have HE:=Qq he0;have HX:=Qq hx;have HY:=Qq hy;clear hi he hg ho hf ha hg0 he0 hx hy;go_enter Tryz.func62,Tryz.ntmps62;go_wp2_with(first|(go_at_call 61;refine(Jw _ _ _ _ _ _ _ _ rfl rfl HF.out HA.out HG.out HE.out HO.out _).mono ?_;rintro e w1 ⟨rfl,hb⟩;obtain⟨hc,hfr,hz0⟩:=hb.facts;have hz:w.heap.size < w1.heap.size:=by { simp at hz0;omega };clear hz0)|(go_at_call 98;(with_reducible refine(Zj _ _ _ true HX.out _).mono ?_);rintro e w' ⟨rfl,rfl⟩)|(go_at_call 98;(with_reducible refine(Zj _ _ _ true HY.out _).mono ?_);rintro e w' ⟨rfl,rfl⟩)|(go_at_call 99;(with_reducible refine(Zp false _ _ _ false rfl _).mono ?_);rintro e w' ⟨rfl,rfl⟩))
 go_ret;exact⟨rfl,((Qz.alloc _).trans hb).alloc _⟩
theorem Qqa(n:Nd)(at_:Int)(w:World)(ho:Jl n.op=true)(hf:Zw n.op=true)(ha:Zy n.op=false)(hg0:Zb n.op=false)(he0:Zl n.op=false)
 (hx:Qh (Qw n.op) n.x at_=true)(hy:Qh (Qa n.op) n.y at_=true)(he:(n.e !=0)=true):
 Calls Tryz.prog 62 #[n.val,.int .i64 at_] w fun e w'=>e=.returned (.int .i64 3)/\Ext w w':=by
 unfold Nd.val;have HO:=Qq ho;have HF:=Qq hf;have HA:=Qq ha;have HG:=Qq hg0;have HE:=Qq he0;have HX:=Qq hx;have HY:=Qq hy;clear ho hf ha hg0 he0 hx hy;go_enter Tryz.func62,Tryz.ntmps62;go_wp2_with(first|(go_at_call 61;refine(Jw _ _ _ _ _ _ _ _ rfl rfl HF.out HA.out HG.out HE.out HO.out _).mono ?_;rintro e w1 ⟨rfl,hb⟩;obtain⟨hc,hfr,hz0⟩:=hb.facts;have hz:w.heap.size < w1.heap.size:=by { simp at hz0;omega };clear hz0)|(go_at_call 98;(with_reducible refine(Zj _ _ _ true HX.out _).mono ?_);rintro e w' ⟨rfl,rfl⟩)|(go_at_call 98;(with_reducible refine(Zj _ _ _ true HY.out _).mono ?_);rintro e w' ⟨rfl,rfl⟩)|(go_at_call 99;(with_reducible refine(Zp false _ _ _ false rfl _).mono ?_);rintro e w' ⟨rfl,rfl⟩))
 go_ret;exact⟨rfl,((Qz.alloc _).trans hb).alloc _⟩
theorem Ia(n:Nd)(at_:Int)(w:World)(ho:Jl n.op=true)(hf:Zw n.op=true)(ha:Zy n.op=false)(hg0:Zb n.op=false)(he0:Zl n.op=false)
 (hx:Qh (Qw n.op) n.x at_=true)(hy:Qh (Qa n.op) n.y at_=true)(he:n.e=0)(hg:(n.g !=0)=true):
 Calls Tryz.prog 62 #[n.val,.int .i64 at_] w fun e w'=>e=.returned (.int .i64 3)/\Ext w w':=by
 unfold Nd.val;rw [he];have HO:=Qq ho;have HF:=Qq hf;have HA:=Qq ha;have HG:=Qq hg0;have HE:=Qq he0;have HX:=Qq hx;have HY:=Qq hy;clear he ho hf ha hg0 he0 hx hy;go_enter Tryz.func62,Tryz.ntmps62;go_wp2_with(first|(go_at_call 61;refine(Jw _ _ _ _ _ _ _ _ rfl rfl HF.out HA.out HG.out HE.out HO.out _).mono ?_;rintro e w1 ⟨rfl,hb⟩;obtain⟨hc,hfr,hz0⟩:=hb.facts;have hz:w.heap.size < w1.heap.size:=by { simp at hz0;omega };clear hz0)|(go_at_call 98;(with_reducible refine(Zj _ _ _ true HX.out _).mono ?_);rintro e w' ⟨rfl,rfl⟩)|(go_at_call 98;(with_reducible refine(Zj _ _ _ true HY.out _).mono ?_);rintro e w' ⟨rfl,rfl⟩)|(go_at_call 99;(with_reducible refine(Zp false _ _ _ false rfl _).mono ?_);rintro e w' ⟨rfl,rfl⟩))
 go_ret;exact⟨rfl,((Qz.alloc _).trans hb).alloc _⟩
theorem Qqm(n:Nd)(at_:Int)(w:World)(ho:Jl n.op=true)(hf:Zw n.op=true)(ha:Zy n.op=false)(hg0:Zb n.op=false)(he0:Zl n.op=false)
 (hx:Qh (Qw n.op) n.x at_=true)(hy:Qh (Qa n.op) n.y at_=true)(he:n.e=0)(hg:n.g=0)(r0:Jz true n.i 0 7=true):
 Calls Tryz.prog 62 #[n.val,.int .i64 at_] w fun e w'=>e=.returned (.int .i64 2)/\Ext w w':=by
 unfold Nd.val;rw [he,hg];have HO:=Qq ho;have HF:=Qq hf;have HA:=Qq ha;have HG:=Qq hg0;have HE:=Qq he0;have HX:=Qq hx;have HY:=Qq hy;have R0:=Qq r0;clear r0;clear he hg ho hf ha hg0 he0 hx hy;go_enter Tryz.func62,Tryz.ntmps62;go_wp2_with(first|(go_at_call 61;refine(Jw _ _ _ _ _ _ _ _ rfl rfl HF.out HA.out HG.out HE.out HO.out _).mono ?_;rintro e w1 ⟨rfl,hb⟩;obtain⟨hc,hfr,hz0⟩:=hb.facts;have hz:w.heap.size < w1.heap.size:=by { simp at hz0;omega };clear hz0)|(go_at_call 98;(with_reducible refine(Zj _ _ _ true HX.out _).mono ?_);rintro e w' ⟨rfl,rfl⟩)|(go_at_call 98;(with_reducible refine(Zj _ _ _ true HY.out _).mono ?_);rintro e w' ⟨rfl,rfl⟩)|(go_at_call 99;(with_reducible refine(Zp true _ _ _ true R0.out _).mono ?_);rintro e w' ⟨rfl,rfl⟩)|(go_at_call 99;(with_reducible refine(Zp false _ _ _ false rfl _).mono ?_);rintro e w' ⟨rfl,rfl⟩))
 go_ret;exact⟨rfl,((Qz.alloc _).trans hb).alloc _⟩
theorem Od(n:Nd)(at_:Int)(w:World)(ho:Jl n.op=true)(hf:Zw n.op=true)(ha:Zy n.op=false)(hg0:Zb n.op=false)(he0:Zl n.op=false)
 (hx:Qh (Qw n.op) n.x at_=true)(hy:Qh (Qa n.op) n.y at_=true)(he:n.e=0)(hg:n.g=0)(r0:Jz true n.i 0 7=false):
 Calls Tryz.prog 62 #[n.val,.int .i64 at_] w fun e w'=>e=.returned (.int .i64 0)/\Ext w w':=by
 unfold Nd.val;rw [he,hg];have HO:=Qq ho;have HF:=Qq hf;have HA:=Qq ha;have HG:=Qq hg0;have HE:=Qq he0;have HX:=Qq hx;have HY:=Qq hy;have R0:=Qq r0;clear r0;clear he hg ho hf ha hg0 he0 hx hy;go_enter Tryz.func62,Tryz.ntmps62;go_wp2_with(first|(go_at_call 61;refine(Jw _ _ _ _ _ _ _ _ rfl rfl HF.out HA.out HG.out HE.out HO.out _).mono ?_;rintro e w1 ⟨rfl,hb⟩;obtain⟨hc,hfr,hz0⟩:=hb.facts;have hz:w.heap.size < w1.heap.size:=by { simp at hz0;omega };clear hz0)|(go_at_call 98;(with_reducible refine(Zj _ _ _ true HX.out _).mono ?_);rintro e w' ⟨rfl,rfl⟩)|(go_at_call 98;(with_reducible refine(Zj _ _ _ true HY.out _).mono ?_);rintro e w' ⟨rfl,rfl⟩)|(go_at_call 99;(with_reducible refine(Zp true _ _ _ false R0.out _).mono ?_);rintro e w' ⟨rfl,rfl⟩)|(go_at_call 99;(with_reducible refine(Zp false _ _ _ false rfl _).mono ?_);rintro e w' ⟨rfl,rfl⟩))
 go_ret;exact⟨rfl,((Qz.alloc _).trans hb).alloc _⟩
theorem Ok(n:Nd)(at_:Int)(w:World)(ho:Jl n.op=true)(hf:Zw n.op=false)(ha:Zy n.op=false)(hg0:Zb n.op=false)(he0:Zl n.op=true)
 (hx:Qh (Qw n.op) n.x at_=true)(hy:Qh (Qa n.op) n.y at_=true)(hg:(n.g !=0)=true):
 Calls Tryz.prog 62 #[n.val,.int .i64 at_] w fun e w'=>e=.returned (.int .i64 3)/\Ext w w':=by
 unfold Nd.val;have HO:=Qq ho;have HF:=Qq hf;have HA:=Qq ha;have HG:=Qq hg0;have HE:=Qq he0;have HX:=Qq hx;have HY:=Qq hy;clear ho hf ha hg0 he0 hx hy;go_enter Tryz.func62,Tryz.ntmps62;go_wp2_with(first|(go_at_call 61;refine(Jw _ _ _ _ _ _ _ _ rfl rfl HF.out HA.out HG.out HE.out HO.out _).mono ?_;rintro e w1 ⟨rfl,hb⟩;obtain⟨hc,hfr,hz0⟩:=hb.facts;have hz:w.heap.size < w1.heap.size:=by { simp at hz0;omega };clear hz0)|(go_at_call 98;(with_reducible refine(Zj _ _ _ true HX.out _).mono ?_);rintro e w' ⟨rfl,rfl⟩)|(go_at_call 98;(with_reducible refine(Zj _ _ _ true HY.out _).mono ?_);rintro e w' ⟨rfl,rfl⟩)|(go_at_call 99;(with_reducible refine(Zp false _ _ _ false rfl _).mono ?_);rintro e w' ⟨rfl,rfl⟩))
 go_ret;exact⟨rfl,((Qz.alloc _).trans hb).alloc _⟩
theorem Ek(n:Nd)(at_:Int)(w:World)(ho:Jl n.op=true)(hf:Zw n.op=false)(ha:Zy n.op=false)(hg0:Zb n.op=false)(he0:Zl n.op=true)
 (hx:Qh (Qw n.op) n.x at_=true)(hy:Qh (Qa n.op) n.y at_=true)(hg:n.g=0)(r0:Jz true n.i 0 7=false)(r1:Jz true n.e 0 7=false):
 Calls Tryz.prog 62 #[n.val,.int .i64 at_] w fun e w'=>e=.returned (.int .i64 0)/\Ext w w':=by
 unfold Nd.val;rw [hg];have HO:=Qq ho;have HF:=Qq hf;have HA:=Qq ha;have HG:=Qq hg0;have HE:=Qq he0;have HX:=Qq hx;have HY:=Qq hy;have R0:=Qq r0;clear r0;have R1:=Qq r1;clear r1;clear hg ho hf ha hg0 he0 hx hy;go_enter Tryz.func62,Tryz.ntmps62;go_wp2_with(first|(go_at_call 61;refine(Jw _ _ _ _ _ _ _ _ rfl rfl HF.out HA.out HG.out HE.out HO.out _).mono ?_;rintro e w1 ⟨rfl,hb⟩;obtain⟨hc,hfr,hz0⟩:=hb.facts;have hz:w.heap.size < w1.heap.size:=by { simp at hz0;omega };clear hz0)|(go_at_call 98;(with_reducible refine(Zj _ _ _ true HX.out _).mono ?_);rintro e w' ⟨rfl,rfl⟩)|(go_at_call 98;(with_reducible refine(Zj _ _ _ true HY.out _).mono ?_);rintro e w' ⟨rfl,rfl⟩)|(go_at_call 99;(with_reducible refine(Zp true _ _ _ false R0.out _).mono ?_);rintro e w' ⟨rfl,rfl⟩)|(go_at_call 99;(with_reducible refine(Zp true _ _ _ false R1.out _).mono ?_);rintro e w' ⟨rfl,rfl⟩)|(go_at_call 99;(with_reducible refine(Zp false _ _ _ false rfl _).mono ?_);rintro e w' ⟨rfl,rfl⟩))
 go_ret;exact⟨rfl,((Qz.alloc _).trans hb).alloc _⟩
theorem Og(n:Nd)(at_:Int)(w:World)(ho:Jl n.op=true)(hf:Zw n.op=false)(ha:Zy n.op=true)(hg0:Zb n.op=false)(he0:Zl n.op=false)
 (hx:Qh (Qw n.op) n.x at_=true)(hy:Qh (Qa n.op) n.y at_=true)(he:(n.e !=0)=true):
 Calls Tryz.prog 62 #[n.val,.int .i64 at_] w fun e w'=>e=.returned (.int .i64 3)/\Ext w w':=by
 unfold Nd.val;have HO:=Qq ho;have HF:=Qq hf;have HA:=Qq ha;have HG:=Qq hg0;have HE:=Qq he0;have HX:=Qq hx;have HY:=Qq hy;clear ho hf ha hg0 he0 hx hy;go_enter Tryz.func62,Tryz.ntmps62;go_wp2_with(first|(go_at_call 61;refine(Jw _ _ _ _ _ _ _ _ rfl rfl HF.out HA.out HG.out HE.out HO.out _).mono ?_;rintro e w1 ⟨rfl,hb⟩;obtain⟨hc,hfr,hz0⟩:=hb.facts;have hz:w.heap.size < w1.heap.size:=by { simp at hz0;omega };clear hz0)|(go_at_call 98;(with_reducible refine(Zj _ _ _ true HX.out _).mono ?_);rintro e w' ⟨rfl,rfl⟩)|(go_at_call 98;(with_reducible refine(Zj _ _ _ true HY.out _).mono ?_);rintro e w' ⟨rfl,rfl⟩)|(go_at_call 99;(with_reducible refine(Zp false _ _ _ false rfl _).mono ?_);rintro e w' ⟨rfl,rfl⟩))
 go_ret;exact⟨rfl,((Qz.alloc _).trans hb).alloc _⟩
theorem Ob(n:Nd)(at_:Int)(w:World)(ho:Jl n.op=true)(hf:Zw n.op=false)(ha:Zy n.op=true)(hg0:Zb n.op=false)(he0:Zl n.op=false)
 (hx:Qh (Qw n.op) n.x at_=true)(hy:Qh (Qa n.op) n.y at_=true)(he:n.e=0)(hg:(n.g !=0)=true):
 Calls Tryz.prog 62 #[n.val,.int .i64 at_] w fun e w'=>e=.returned (.int .i64 3)/\Ext w w':=by
 unfold Nd.val;rw [he];have HO:=Qq ho;have HF:=Qq hf;have HA:=Qq ha;have HG:=Qq hg0;have HE:=Qq he0;have HX:=Qq hx;have HY:=Qq hy;clear he ho hf ha hg0 he0 hx hy;go_enter Tryz.func62,Tryz.ntmps62;go_wp2_with(first|(go_at_call 61;refine(Jw _ _ _ _ _ _ _ _ rfl rfl HF.out HA.out HG.out HE.out HO.out _).mono ?_;rintro e w1 ⟨rfl,hb⟩;obtain⟨hc,hfr,hz0⟩:=hb.facts;have hz:w.heap.size < w1.heap.size:=by { simp at hz0;omega };clear hz0)|(go_at_call 98;(with_reducible refine(Zj _ _ _ true HX.out _).mono ?_);rintro e w' ⟨rfl,rfl⟩)|(go_at_call 98;(with_reducible refine(Zj _ _ _ true HY.out _).mono ?_);rintro e w' ⟨rfl,rfl⟩)|(go_at_call 99;(with_reducible refine(Zp false _ _ _ false rfl _).mono ?_);rintro e w' ⟨rfl,rfl⟩))
 go_ret;exact⟨rfl,((Qz.alloc _).trans hb).alloc _⟩
theorem Ol(n:Nd)(at_:Int)(w:World)(ho:Jl n.op=true)(hf:Zw n.op=false)(ha:Zy n.op=true)(hg0:Zb n.op=false)(he0:Zl n.op=false)
 (hx:Qh (Qw n.op) n.x at_=true)(hy:Qh (Qa n.op) n.y at_=true)(he:n.e=0)(hg:n.g=0)(r0:Jz true n.i 0 3=true):
 Calls Tryz.prog 62 #[n.val,.int .i64 at_] w fun e w'=>e=.returned (.int .i64 2)/\Ext w w':=by
 unfold Nd.val;rw [he,hg];have HO:=Qq ho;have HF:=Qq hf;have HA:=Qq ha;have HG:=Qq hg0;have HE:=Qq he0;have HX:=Qq hx;have HY:=Qq hy;have R0:=Qq r0;clear r0;clear he hg ho hf ha hg0 he0 hx hy;go_enter Tryz.func62,Tryz.ntmps62;go_wp2_with(first|(go_at_call 61;refine(Jw _ _ _ _ _ _ _ _ rfl rfl HF.out HA.out HG.out HE.out HO.out _).mono ?_;rintro e w1 ⟨rfl,hb⟩;obtain⟨hc,hfr,hz0⟩:=hb.facts;have hz:w.heap.size < w1.heap.size:=by { simp at hz0;omega };clear hz0)|(go_at_call 98;(with_reducible refine(Zj _ _ _ true HX.out _).mono ?_);rintro e w' ⟨rfl,rfl⟩)|(go_at_call 98;(with_reducible refine(Zj _ _ _ true HY.out _).mono ?_);rintro e w' ⟨rfl,rfl⟩)|(go_at_call 99;(with_reducible refine(Zp true _ _ _ true R0.out _).mono ?_);rintro e w' ⟨rfl,rfl⟩)|(go_at_call 99;(with_reducible refine(Zp false _ _ _ false rfl _).mono ?_);rintro e w' ⟨rfl,rfl⟩))
 go_ret;exact⟨rfl,((Qz.alloc _).trans hb).alloc _⟩
theorem Eq(n:Nd)(at_:Int)(w:World)(ho:Jl n.op=true)(hf:Zw n.op=false)(ha:Zy n.op=true)(hg0:Zb n.op=false)(he0:Zl n.op=false)
 (hx:Qh (Qw n.op) n.x at_=true)(hy:Qh (Qa n.op) n.y at_=true)(he:n.e=0)(hg:n.g=0)(r0:Jz true n.i 0 3=false):
 Calls Tryz.prog 62 #[n.val,.int .i64 at_] w fun e w'=>e=.returned (.int .i64 0)/\Ext w w':=by
 unfold Nd.val;rw [he,hg];have HO:=Qq ho;have HF:=Qq hf;have HA:=Qq ha;have HG:=Qq hg0;have HE:=Qq he0;have HX:=Qq hx;have HY:=Qq hy;have R0:=Qq r0;clear r0;clear he hg ho hf ha hg0 he0 hx hy;go_enter Tryz.func62,Tryz.ntmps62;go_wp2_with(first|(go_at_call 61;refine(Jw _ _ _ _ _ _ _ _ rfl rfl HF.out HA.out HG.out HE.out HO.out _).mono ?_;rintro e w1 ⟨rfl,hb⟩;obtain⟨hc,hfr,hz0⟩:=hb.facts;have hz:w.heap.size < w1.heap.size:=by { simp at hz0;omega };clear hz0)|(go_at_call 98;(with_reducible refine(Zj _ _ _ true HX.out _).mono ?_);rintro e w' ⟨rfl,rfl⟩)|(go_at_call 98;(with_reducible refine(Zj _ _ _ true HY.out _).mono ?_);rintro e w' ⟨rfl,rfl⟩)|(go_at_call 99;(with_reducible refine(Zp true _ _ _ false R0.out _).mono ?_);rintro e w' ⟨rfl,rfl⟩)|(go_at_call 99;(with_reducible refine(Zp false _ _ _ false rfl _).mono ?_);rintro e w' ⟨rfl,rfl⟩))
 go_ret;exact⟨rfl,((Qz.alloc _).trans hb).alloc _⟩
theorem On(n:Nd)(at_:Int)(w:World)(ho:Jl n.op=true)(hf:Zw n.op=false)(ha:Zy n.op=false)(hg0:Zb n.op=false)(he0:Zl n.op=true)
 (hx:Qh (Qw n.op) n.x at_=true)(hy:Qh (Qa n.op) n.y at_=true)(hg:n.g=0)(r0:Jz true n.i 0 7=true):
 Calls Tryz.prog 62 #[n.val,.int .i64 at_] w fun e w'=>e=.returned (.int .i64 2)/\Ext w w':=by
 unfold Nd.val;rw [hg];have HO:=Qq ho;have HF:=Qq hf;have HA:=Qq ha;have HG:=Qq hg0;have HE:=Qq he0;have HX:=Qq hx;have HY:=Qq hy;have R0:=Qq r0;clear r0;clear hg ho hf ha hg0 he0 hx hy;go_enter Tryz.func62,Tryz.ntmps62;go_wp2_with(first|(go_at_call 61;refine(Jw _ _ _ _ _ _ _ _ rfl rfl HF.out HA.out HG.out HE.out HO.out _).mono ?_;rintro e w1 ⟨rfl,hb⟩;obtain⟨hc,hfr,hz0⟩:=hb.facts;have hz:w.heap.size < w1.heap.size:=by { simp at hz0;omega };clear hz0)|(go_at_call 98;(with_reducible refine(Zj _ _ _ true HX.out _).mono ?_);rintro e w' ⟨rfl,rfl⟩)|(go_at_call 98;(with_reducible refine(Zj _ _ _ true HY.out _).mono ?_);rintro e w' ⟨rfl,rfl⟩)|(go_at_call 99;(with_reducible refine(Zp true _ _ _ true R0.out _).mono ?_);rintro e w' ⟨rfl,rfl⟩)|(go_at_call 99;(with_reducible refine(Zp false _ _ _ false rfl _).mono ?_);rintro e w' ⟨rfl,rfl⟩))
 go_ret;exact⟨rfl,((Qz.alloc _).trans hb).alloc _⟩
theorem Ox(n:Nd)(at_:Int)(w:World)(ho:Jl n.op=true)(hf:Zw n.op=false)(ha:Zy n.op=false)(hg0:Zb n.op=false)(he0:Zl n.op=true)
 (hx:Qh (Qw n.op) n.x at_=true)(hy:Qh (Qa n.op) n.y at_=true)(hg:n.g=0)(r0:Jz true n.i 0 7=false)(r1:Jz true n.e 0 7=true):
 Calls Tryz.prog 62 #[n.val,.int .i64 at_] w fun e w'=>e=.returned (.int .i64 2)/\Ext w w':=by
 unfold Nd.val;rw [hg];have HO:=Qq ho;have HF:=Qq hf;have HA:=Qq ha;have HG:=Qq hg0;have HE:=Qq he0;have HX:=Qq hx;have HY:=Qq hy;have R0:=Qq r0;clear r0;have R1:=Qq r1;clear r1;clear hg ho hf ha hg0 he0 hx hy;go_enter Tryz.func62,Tryz.ntmps62;go_wp2_with(first|(go_at_call 61;refine(Jw _ _ _ _ _ _ _ _ rfl rfl HF.out HA.out HG.out HE.out HO.out _).mono ?_;rintro e w1 ⟨rfl,hb⟩;obtain⟨hc,hfr,hz0⟩:=hb.facts;have hz:w.heap.size < w1.heap.size:=by { simp at hz0;omega };clear hz0)|(go_at_call 98;(with_reducible refine(Zj _ _ _ true HX.out _).mono ?_);rintro e w' ⟨rfl,rfl⟩)|(go_at_call 98;(with_reducible refine(Zj _ _ _ true HY.out _).mono ?_);rintro e w' ⟨rfl,rfl⟩)|(go_at_call 99;(with_reducible refine(Zp true _ _ _ false R0.out _).mono ?_);rintro e w' ⟨rfl,rfl⟩)|(go_at_call 99;(with_reducible refine(Zp true _ _ _ true R1.out _).mono ?_);rintro e w' ⟨rfl,rfl⟩)|(go_at_call 99;(with_reducible refine(Zp false _ _ _ false rfl _).mono ?_);rintro e w' ⟨rfl,rfl⟩))
 go_ret;exact⟨rfl,((Qz.alloc _).trans hb).alloc _⟩
theorem Ot(n:Nd)(at_:Int)(w:World)(ho:Jl n.op=true)(hf:Zw n.op=false)(ha:Zy n.op=false)(hg0:Zb n.op=true)(he0:Zl n.op=false)
 (hx:Qh (Qw n.op) n.x at_=true)(hy:Qh (Qa n.op) n.y at_=true)(hi:(n.i !=0)=true):
 Calls Tryz.prog 62 #[n.val,.int .i64 at_] w fun e w'=>e=.returned (.int .i64 3)/\Ext w w':=by
 unfold Nd.val;have HO:=Qq ho;have HF:=Qq hf;have HA:=Qq ha;have HG:=Qq hg0;have HE:=Qq he0;have HX:=Qq hx;have HY:=Qq hy;clear ho hf ha hg0 he0 hx hy;go_enter Tryz.func62,Tryz.ntmps62;go_wp2_with(first|(go_at_call 61;refine(Jw _ _ _ _ _ _ _ _ rfl rfl HF.out HA.out HG.out HE.out HO.out _).mono ?_;rintro e w1 ⟨rfl,hb⟩;obtain⟨hc,hfr,hz0⟩:=hb.facts;have hz:w.heap.size < w1.heap.size:=by { simp at hz0;omega };clear hz0)|(go_at_call 98;(with_reducible refine(Zj _ _ _ true HX.out _).mono ?_);rintro e w' ⟨rfl,rfl⟩)|(go_at_call 98;(with_reducible refine(Zj _ _ _ true HY.out _).mono ?_);rintro e w' ⟨rfl,rfl⟩)|(go_at_call 99;(with_reducible refine(Zp false _ _ _ false rfl _).mono ?_);rintro e w' ⟨rfl,rfl⟩))
 go_ret;exact⟨rfl,((Qz.alloc _).trans hb).alloc _⟩
theorem Om(n:Nd)(at_:Int)(w:World)(ho:Jl n.op=true)(hf:Zw n.op=false)(ha:Zy n.op=false)(hg0:Zb n.op=true)(he0:Zl n.op=false)
 (hx:Qh (Qw n.op) n.x at_=true)(hy:Qh (Qa n.op) n.y at_=true)(hi:n.i=0)(he:(n.e !=0)=true):
 Calls Tryz.prog 62 #[n.val,.int .i64 at_] w fun e w'=>e=.returned (.int .i64 3)/\Ext w w':=by
 unfold Nd.val;rw [hi];have HO:=Qq ho;have HF:=Qq hf;have HA:=Qq ha;have HG:=Qq hg0;have HE:=Qq he0;have HX:=Qq hx;have HY:=Qq hy;clear hi ho hf ha hg0 he0 hx hy;go_enter Tryz.func62,Tryz.ntmps62;go_wp2_with(first|(go_at_call 61;refine(Jw _ _ _ _ _ _ _ _ rfl rfl HF.out HA.out HG.out HE.out HO.out _).mono ?_;rintro e w1 ⟨rfl,hb⟩;obtain⟨hc,hfr,hz0⟩:=hb.facts;have hz:w.heap.size < w1.heap.size:=by { simp at hz0;omega };clear hz0)|(go_at_call 98;(with_reducible refine(Zj _ _ _ true HX.out _).mono ?_);rintro e w' ⟨rfl,rfl⟩)|(go_at_call 98;(with_reducible refine(Zj _ _ _ true HY.out _).mono ?_);rintro e w' ⟨rfl,rfl⟩)|(go_at_call 99;(with_reducible refine(Zp false _ _ _ false rfl _).mono ?_);rintro e w' ⟨rfl,rfl⟩))
 go_ret;exact⟨rfl,((Qz.alloc _).trans hb).alloc _⟩
theorem Oc(n:Nd)(at_:Int)(w:World)(ho:Jl n.op=true)(hf:Zw n.op=false)(ha:Zy n.op=false)(hg0:Zb n.op=true)(he0:Zl n.op=false)
 (hx:Qh (Qw n.op) n.x at_=true)(hy:Qh (Qa n.op) n.y at_=true)(hi:n.i=0)(he:n.e=0)(r0:Jz true n.g 1 15=true):
 Calls Tryz.prog 62 #[n.val,.int .i64 at_] w fun e w'=>e=.returned (.int .i64 2)/\Ext w w':=by
 unfold Nd.val;rw [hi,he];have HO:=Qq ho;have HF:=Qq hf;have HA:=Qq ha;have HG:=Qq hg0;have HE:=Qq he0;have HX:=Qq hx;have HY:=Qq hy;have R0:=Qq r0;clear r0;clear hi he ho hf ha hg0 he0 hx hy;go_enter Tryz.func62,Tryz.ntmps62;go_wp2_with(first|(go_at_call 61;refine(Jw _ _ _ _ _ _ _ _ rfl rfl HF.out HA.out HG.out HE.out HO.out _).mono ?_;rintro e w1 ⟨rfl,hb⟩;obtain⟨hc,hfr,hz0⟩:=hb.facts;have hz:w.heap.size < w1.heap.size:=by { simp at hz0;omega };clear hz0)|(go_at_call 98;(with_reducible refine(Zj _ _ _ true HX.out _).mono ?_);rintro e w' ⟨rfl,rfl⟩)|(go_at_call 98;(with_reducible refine(Zj _ _ _ true HY.out _).mono ?_);rintro e w' ⟨rfl,rfl⟩)|(go_at_call 99;(with_reducible refine(Zp true _ _ _ true R0.out _).mono ?_);rintro e w' ⟨rfl,rfl⟩)|(go_at_call 99;(with_reducible refine(Zp false _ _ _ false rfl _).mono ?_);rintro e w' ⟨rfl,rfl⟩))
 go_ret;exact⟨rfl,((Qz.alloc _).trans hb).alloc _⟩
theorem Ey(n:Nd)(at_:Int)(w:World)(ho:Jl n.op=true)(hf:Zw n.op=false)(ha:Zy n.op=false)(hg0:Zb n.op=true)(he0:Zl n.op=false)
 (hx:Qh (Qw n.op) n.x at_=true)(hy:Qh (Qa n.op) n.y at_=true)(hi:n.i=0)(he:n.e=0)(r0:Jz true n.g 1 15=false):
 Calls Tryz.prog 62 #[n.val,.int .i64 at_] w fun e w'=>e=.returned (.int .i64 0)/\Ext w w':=by
 unfold Nd.val;rw [hi,he];have HO:=Qq ho;have HF:=Qq hf;have HA:=Qq ha;have HG:=Qq hg0;have HE:=Qq he0;have HX:=Qq hx;have HY:=Qq hy;have R0:=Qq r0;clear r0;clear hi he ho hf ha hg0 he0 hx hy;go_enter Tryz.func62,Tryz.ntmps62;go_wp2_with(first|(go_at_call 61;refine(Jw _ _ _ _ _ _ _ _ rfl rfl HF.out HA.out HG.out HE.out HO.out _).mono ?_;rintro e w1 ⟨rfl,hb⟩;obtain⟨hc,hfr,hz0⟩:=hb.facts;have hz:w.heap.size < w1.heap.size:=by { simp at hz0;omega };clear hz0)|(go_at_call 98;(with_reducible refine(Zj _ _ _ true HX.out _).mono ?_);rintro e w' ⟨rfl,rfl⟩)|(go_at_call 98;(with_reducible refine(Zj _ _ _ true HY.out _).mono ?_);rintro e w' ⟨rfl,rfl⟩)|(go_at_call 99;(with_reducible refine(Zp true _ _ _ false R0.out _).mono ?_);rintro e w' ⟨rfl,rfl⟩)|(go_at_call 99;(with_reducible refine(Zp false _ _ _ false rfl _).mono ?_);rintro e w' ⟨rfl,rfl⟩))
 go_ret;exact⟨rfl,((Qz.alloc _).trans hb).alloc _⟩
theorem Qgo(n:Nd)(at_:Int)(w:World)(ho:Jl n.op=true)(hx:Qh (Qw n.op) n.x at_=false):
 Calls Tryz.prog 62 #[n.val,.int .i64 at_] w fun e w'=>e=.returned (.int .i64 3)/\Ext w w':=by
 unfold Nd.val;have HO:=Qq ho;have HX:=Qq hx;clear ho hx;go_enter Tryz.func62,Tryz.ntmps62;go_wp2_with(first|(go_at_call 61;refine(Jw _ _ _ _ _ _ _ _ rfl rfl rfl rfl rfl rfl HO.out _).mono ?_;rintro e w1 ⟨rfl,hb⟩;obtain⟨hc,hfr,hz0⟩:=hb.facts;have hz:w.heap.size < w1.heap.size:=by { simp at hz0;omega };clear hz0)|(go_at_call 98;(with_reducible refine(Zj _ _ _ false HX.out _).mono ?_);rintro e w' ⟨rfl,rfl⟩));go_ret;exact⟨rfl,((Qz.alloc _).trans hb).alloc _⟩
theorem Qgw(n:Nd)(at_:Int)(w:World)(ho:Jl n.op=true)(hx:Qh (Qw n.op) n.x at_=true)(hy:Qh (Qa n.op) n.y at_=false):
 Calls Tryz.prog 62 #[n.val,.int .i64 at_] w fun e w'=>e=.returned (.int .i64 3)/\Ext w w':=by
 unfold Nd.val;have HO:=Qq ho;have HX:=Qq hx;have HY:=Qq hy;clear ho hx hy;go_enter Tryz.func62,Tryz.ntmps62;go_wp2_with(first|(go_at_call 61;refine(Jw _ _ _ _ _ _ _ _ rfl rfl rfl rfl rfl rfl HO.out _).mono ?_;rintro e w1 ⟨rfl,hb⟩;obtain⟨hc,hfr,hz0⟩:=hb.facts;have hz:w.heap.size < w1.heap.size:=by { simp at hz0;omega };clear hz0)|(go_at_call 98;(with_reducible refine(Zj _ _ _ true HX.out _).mono ?_);rintro e w' ⟨rfl,rfl⟩)|(go_at_call 98;(with_reducible refine(Zj _ _ _ false HY.out _).mono ?_);rintro e w' ⟨rfl,rfl⟩));go_ret;exact⟨rfl,((Qz.alloc _).trans hb).alloc _⟩
theorem Ny(n:Nd)(at_:Int)(w:World):
 Calls Tryz.prog 62 #[n.val,.int .i64 at_] w fun e w'=>e=.returned (.int .i64 (Zz n at_))/\Ext w w':=by
 have key:∀r:Int,Zz n at_=r->(Calls Tryz.prog 62 #[n.val,.int .i64 at_] w fun e w'=>e=.returned (.int .i64 r)/\Ext w w')->
  Calls Tryz.prog 62 #[n.val,.int .i64 at_] w fun e w'=>e=.returned (.int .i64 (Zz n at_))/\Ext w w':=by
  intro r h hc;rw [h];exact hc
 cases ho:Jl n.op
 ·exact key 10 (by simp [Zz,ho]) (Qzh n at_ w ho)
 cases hx:Qh (Qw n.op) n.x at_
 ·exact key 3 (by simp [Zz,ho,hx]) (Qgo n at_ w ho hx)
 cases hy:Qh (Qa n.op) n.y at_
 ·exact key 3 (by simp [Zz,ho,hx,hy]) (Qgw n at_ w ho hx hy)
 have ob:∀v a b,Jz false v a b=false:=fun _ _ _=>rfl
 rcases Qe9 n.op with⟨hf,ha,hg,he⟩|⟨hf,ha,hg,he⟩|⟨hf,ha,hg,he⟩|⟨hf,ha,hg,he⟩|⟨hf,ha,hg,he⟩
 ·by_cases hi:n.i=0
  ·by_cases hee:n.e=0
   ·by_cases hgg:n.g=0
    ·exact key 0 (by simp [Zz,ho,hx,hy,Yf,Yk,hf,ha,hg,he,hi,hee,hgg,ob]) (Of n at_ w ho hf ha hg he hx hy hi hee hgg)
    exact key 3 (by have hb:(n.g !=0)=true:=by { simpa using hgg };simp only [Zz,ho,hx,hy,Yf,hf,ha,hg,he,hb];simp) (Qqx n at_ w ho hf ha hg he hx hy hi hee (by simpa using hgg))
   exact key 3 (by have hb:(n.e !=0)=true:=by { simpa using hee };simp only [Zz,ho,hx,hy,Yf,hf,ha,hg,he,hb];simp) (Io n at_ w ho hf ha hg he hx hy hi (by simpa using hee))
  exact key 3 (by have hb:(n.i !=0)=true:=by { simpa using hi };simp only [Zz,ho,hx,hy,Yf,hf,ha,hg,he,hb];simp) (Ii n at_ w ho hf ha hg he hx hy (by simpa using hi))
 ·by_cases hee:n.e=0
  ·by_cases hgg:n.g=0
   ·cases hr:Jz true n.i 0 7
    ·exact key 0 (by simp [Zz,ho,hx,hy,Yf,Yk,hf,ha,hg,he,hee,hgg,ob,hr]) (Od n at_ w ho hf ha hg he hx hy hee hgg hr)
    exact key 2 (by simp [Zz,ho,hx,hy,Yf,Yk,hf,ha,hg,he,hee,hgg,hr]) (Qqm n at_ w ho hf ha hg he hx hy hee hgg hr)
   exact key 3 (by have hb:(n.g !=0)=true:=by { simpa using hgg };simp only [Zz,ho,hx,hy,Yf,hf,ha,hg,he,hb];simp) (Ia n at_ w ho hf ha hg he hx hy hee (by simpa using hgg))
  exact key 3 (by have hb:(n.e !=0)=true:=by { simpa using hee };simp only [Zz,ho,hx,hy,Yf,hf,ha,hg,he,hb];simp) (Qqa n at_ w ho hf ha hg he hx hy (by simpa using hee))
 ·by_cases hee:n.e=0
  ·by_cases hgg:n.g=0
   ·cases hr:Jz true n.i 0 3
    ·exact key 0 (by simp [Zz,ho,hx,hy,Yf,Yk,hf,ha,hg,he,hee,hgg,ob,hr]) (Eq n at_ w ho hf ha hg he hx hy hee hgg hr)
    exact key 2 (by simp [Zz,ho,hx,hy,Yf,Yk,hf,ha,hg,he,hee,hgg,hr]) (Ol n at_ w ho hf ha hg he hx hy hee hgg hr)
   exact key 3 (by have hb:(n.g !=0)=true:=by { simpa using hgg };simp only [Zz,ho,hx,hy,Yf,hf,ha,hg,he,hb];simp) (Ob n at_ w ho hf ha hg he hx hy hee (by simpa using hgg))
  exact key 3 (by have hb:(n.e !=0)=true:=by { simpa using hee };simp only [Zz,ho,hx,hy,Yf,hf,ha,hg,he,hb];simp) (Og n at_ w ho hf ha hg he hx hy (by simpa using hee))
 ·by_cases hi:n.i=0
  ·by_cases hee:n.e=0
   ·cases hr:Jz true n.g 1 15
    ·exact key 0 (by simp [Zz,ho,hx,hy,Yf,Yk,hf,ha,hg,he,hi,hee,ob,hr]) (Ey n at_ w ho hf ha hg he hx hy hi hee hr)
    exact key 2 (by simp [Zz,ho,hx,hy,Yf,Yk,hf,ha,hg,he,hi,hee,hr]) (Oc n at_ w ho hf ha hg he hx hy hi hee hr)
   exact key 3 (by have hb:(n.e !=0)=true:=by { simpa using hee };simp only [Zz,ho,hx,hy,Yf,hf,ha,hg,he,hb];simp) (Om n at_ w ho hf ha hg he hx hy hi (by simpa using hee))
  exact key 3 (by have hb:(n.i !=0)=true:=by { simpa using hi };simp only [Zz,ho,hx,hy,Yf,hf,ha,hg,he,hb];simp) (Ot n at_ w ho hf ha hg he hx hy (by simpa using hi))
 by_cases hgg:n.g=0
 ·cases hr:Jz true n.i 0 7
  ·cases hs:Jz true n.e 0 7
   ·exact key 0 (by simp [Zz,ho,hx,hy,Yf,Yk,hf,ha,hg,he,hgg,ob,hr,hs]) (Ek n at_ w ho hf ha hg he hx hy hgg hr hs)
   exact key 2 (by simp [Zz,ho,hx,hy,Yf,Yk,hf,ha,hg,he,hgg,hr,hs]) (Ox n at_ w ho hf ha hg he hx hy hgg hr hs)
  exact key 2 (by simp [Zz,ho,hx,hy,Yf,Yk,hf,ha,hg,he,hgg,hr]) (On n at_ w ho hf ha hg he hx hy hgg hr)
 exact key 3 (by have hb:(n.g !=0)=true:=by { simpa using hgg };simp only [Zz,ho,hx,hy,Yf,hf,ha,hg,he,hb];simp) (Ok n at_ w ho hf ha hg he hx hy (by simpa using hgg))
theorem Qn(a:Addr)(n:Nat):(a.add n).block=a.block:=by unfold Addr.add;split <;> rfl
theorem Qq9(a:Addr)(i j:Nat):(a.add i).add j=a.add (i+j):=by
 unfold Addr.add;by_cases hi:i=0 <;> by_cases hj:j=0 <;> simp [hi,hj,Nat.add_assoc]
def Qkt(w:World)(a:Addr)(n:Nd):Prop :=
 w.cell? a=some (.int .i64 n.op)/\w.cell? ⟨a.block,a.off+1,none⟩=some (.int .i64 n.i)/\w.cell? ⟨a.block,a.off+2,none⟩=some (.int .i64 n.e)/\w.cell? ⟨a.block,a.off+3,none⟩=some (.int .i64 n.g)/\
  w.cell? ⟨a.block,a.off+4,none⟩=some (.int .i64 n.x)/\w.cell? ⟨a.block,a.off+5,none⟩=some (.int .i64 n.y)
def Lx(w:World)(A:Option Addr)(c:Nat)(l:List Nd):Prop :=
 l.length<=c/\c<=maxLen/\(l≠ []->∃ad,A=some ad/\ad.block < w.heap.size/\∀k n,l[k]?=some n->Qkt w (ad.add (k*6)) n)
def Nds(w:World)(v:Value)(l:List Nd):Prop:=∃A c,v=.slice A l.length c/\Lx w A c l
section
variable {w w':World} {a:Addr} {n:Nd} {l:List Nd} {A:Option Addr} {c:Nat} {v:Value}
theorem Qkt.keep(h:Qkt w a n)(hk:∀p:Addr,p.block=a.block->w'.cell? p=w.cell? p):Qkt w' a n:=by
 obtain⟨h0,h1,h2,h3,h4,h5⟩:=h;have hk':∀o s,w'.cell? ⟨a.block,o,s⟩=w.cell? ⟨a.block,o,s⟩:=fun o s=>hk ⟨a.block,o,s⟩ rfl
 exact⟨(hk _ rfl).trans h0,(hk' _ _).trans h1,(hk' _ _).trans h2,(hk' _ _).trans h3,(hk' _ _).trans h4,(hk' _ _).trans h5⟩
theorem Lx.ext(h:Lx w A c l)(hb:Ext w w'):Lx w' A c l :=
 ⟨h.1,h.2.1,fun hn=>by
  obtain⟨ad,e,hlt,hc⟩:=h.2.2 hn;exact⟨ad,e,Qy hlt hb.size,fun k n hk=>(hc k n hk).keep fun p hp=>hb.cell (by rw [hp,Qn];exact hlt)⟩⟩
theorem Nds.ext(h:Nds w v l)(hb:Ext w w'):Nds w' v l:=by
 obtain⟨A,c,e,h⟩:=h;exact⟨A,c,e,h.ext hb⟩
end
theorem Qj {a:Addr} {k n:Nat}(h:a.block < n):(a.add k).block < n:=by rw [Qn];exact h
theorem Nw {k:IntKind} {a b:Int}(h:a=b):Ending.returned (.int k a)=.returned (.int k b):=by rw [h]
theorem Je(v:Value)(l:List Nd)(w:World)(h:Nds w v l):
 Calls Tryz.prog 38 #[v] w fun e w'=>e=.returned (.int .i64 (Qs l))/\Ext w w':=by
 obtain⟨A,c,rfl,hcap,hmax,hread⟩:=h;unfold maxLen at hmax;by_cases h0:l.length=0
 ·have hcheck:Qs l=3:=by simp [Qs,h0]
  rw [h0,hcheck];clear hcheck hread;go_enter Tryz.func38,Tryz.ntmps38;go_wp2_with fail;go_ret;exact⟨rfl,Qz⟩
 have e0:((l.length:Int)==0)=false:=by rw [beq_eq_false_iff_ne];omega
 by_cases h1:200 < l.length
 ·have hcheck:Qs l=8:=by simp [Qs,h0,h1]
  rw [hcheck];clear hcheck hread;go_enter Tryz.func38,Tryz.ntmps38;go_wp2_with fail;go_ret;exact⟨rfl,Qz⟩
 have hne:l≠ []:=fun e=>h0 (by simp [e])
 obtain⟨ad,rfl,hlt,hcells⟩:=hread hne;have HC:=Qq hcells;clear hcells;have HK:=Qq (show Qs l=Yt l 0 by simp [Qs,h0,h1]);have hl:l.length<=200:=by omega
 clear h0 h1 hread;go_enter Tryz.func38,Tryz.ntmps38;go_wp2_with fail;go_loopw [14] (fun i wr=>∃k:Nat,k<=l.length/\i=.int .i64 k/\Hid (Yt l 0=Yt (l.drop k) k)/\Ext w wr) (fun i _=>l.length - (intOf i).toNat)
 case atStart=>exact⟨0,Nat.zero_le _,rfl,Qq rfl,Qz⟩
 case round =>
  obtain⟨k,hk,rfl,hrest,hext⟩:=hrel;by_cases hlt2:k < l.length
  ·obtain⟨n,hn⟩:∃n,l[k]?=some n:=⟨_,Qv hlt2⟩;have hst:=Qz8 l k n hn;obtain⟨c0,c1,c2,c3,c4,c5⟩:=(HC.out k n hn).keep fun p hp=>hext.cell (p:=p) (by rw [hp,Qn];exact hlt)
   by_cases he:Zz n k=0
   ·have hst2:Hid (Yt l 0=Yt (l.drop (k+1)) ((k+1:Nat):Int)):=Qq (by rw [hrest.out,hst,he];rfl);have hh:=Qq he;clear hst he hn hrest;go_wp2_with(go_at_call 62;refine(Ny n _ _).mono ?_;rintro e w1 ⟨rfl,hb⟩;rw [hh.out]);go_roundw
    case rel=>exact⟨k+1,by omega,by go_num,hst2,(hext.alloc _).trans hb⟩
    case measure=>simp [intOf];omega
   have hh:(Zz n k !=0)=true:=by simpa using he
   have hst2:Hid (Yt l 0=Zz n k):=Qq (by rw [hrest.out,hst,hh];rfl);clear hst he hn hrest;go_wp2_with(go_at_call 62;refine(Ny n _ _).mono ?_;rintro e w1 ⟨rfl,hb⟩);go_ret;exact⟨Nw (by rw [HK.out,hst2.out]),(hext.alloc _).trans hb⟩
  obtain rfl:l.length=k:=by omega
  go_wp2_with fail;go_ret;refine⟨Nw ?_,hext⟩;rw [HK.out,hrest.out];simp [Yt]
end Go.Proofs.YtmidgcldljfkcaaGreatDoor
