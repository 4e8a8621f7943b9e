/- The formulas of the language as plain Lean data: nodes, the fields that operators use, the error of a node and of a list. No program in sight. -/
import Derived.WalkKit
import Derived.Lib.Hide
import Derived.Laws.OwnMore
import Derived.Deep.AppendLies
import Derived.Deep.Draws
import Derived.Test.YtkmclcmnoicagaaGreatDoorProg
import Derived.WalkSpells
import Derived.WalkLawsBesides
import Derived.Deep.QuietTactic
import Derived.BigQuiet
namespace Go.Proofs.YtkmclcmnoicagaaGreatDoor
set_option maxRecDepth 100000
set_option maxHeartbeats 128000000
theorem Qq {p:Prop}(h:p):Go.RowKit.Hid p:=Lib.hid h
theorem Qy {a b c:Nat}(h:a < b)(k:b<=c):a < c:=Nat.lt_of_lt_of_le h k
theorem Qv {α:Type _} {l:List α} {i:Nat}(h:i < l.length):l[i]?=some l[i]:=List.getElem?_eq_getElem h
theorem Qk {α:Type _} {l:List α} {i:Nat} {a:α} :l.getD i a=l[i]?.getD a:=List.getD_eq_getElem?_getD
theorem Qx {a b c:Nat}(h:a<=b)(k:b<=c):a<=c:=Nat.le_trans h k
open Go.RowKit
structure Nd where
 op:Int
 i:Int
 e:Int
 g:Int
 x:Int
 y:Int
deriving DecidableEq
def Nd.cells(n:Nd):List Value:= [.int .i64 n.op,.int .i64 n.i,.int .i64 n.e,.int .i64 n.g,.int .i64 n.x,.int .i64 n.y]
def Nd.val(n:Nd):Value:=.agg #[.int .i64 n.op,.int .i64 n.i,.int .i64 n.e,.int .i64 n.g,.int .i64 n.x,.int .i64 n.y]
def Yr(op:Int):Bool:=decide (1<=op)&&decide (op<=21)
def Qi(op:Int):Bool:=decide (4<=op)&&decide (op<=21)
def Qe(op:Int):Bool:=(decide (5<=op)&&decide (op<=8))||op==13||op==14||op==16||op==19||op==21
def Zw(op:Int):Bool:=op==3
def Zx(op:Int):Bool:=op==9||op==10||op==14||op==15
def Zl(op:Int):Bool:=decide (11<=op)&&decide (op<=13)
def Zg(op:Int):Bool:=op==17
def Vk(op:Int):Int :=
 if op==9||op==10 then 1 else if op==11 then 2 else if op==12 then 4 else if op==13 then 8 else if op==14 then 16 else if op==15 then 32
 else if op==16 then 64 else if op==17 then 128 else if decide (18<=op)&&decide (op<=21)then 256 else 0
def Um(op:Int):Value :=
 .agg #[.bool (Qi op),.bool (Qe op),.bool (Zw op),.bool (Zx op),.bool (Zl op),.bool (Zg op),.int .i64 (Vk op)]
def Zy(used:Bool)(field at_:Int):Bool:=bif used then decide (0<=field)&&decide (field < at_)else field==0
def Ql(used:Bool)(v low mP:Int):Bool:=used&&(decide (v < low)||decide (mP < v))
def Zc(n:Nd):Bool:=(!(Zw n.op||Zx n.op||Zg n.op)&&n.i !=0)||(!Zg n.op&&n.e !=0)||(!Zl n.op&&n.g !=0)
def Ys(n:Nd):Bool :=
 Ql (Zw n.op) n.i 0 7||Ql (Zx n.op) n.i 0 3||Ql (Zg n.op) n.i 0 7||Ql (Zg n.op) n.e 0 7||Ql (Zl n.op) n.g 1 15
def Zd(n:Nd)(at_:Int):Int :=
 bif !Yr n.op then 10 else bif !Zy (Qi n.op) n.x at_|| !Zy (Qe n.op) n.y at_ then 3 else bif Zc n then 3 else bif Ys n then 2 else 0
theorem Dh(op:Int):op<=0\/22<=op\/op=1\/op=2\/op=3\/op=4\/op=5\/op=6\/op=7\/op=8\/op=9\/op=10\/op=11\/op=12\/op=13\/op=14\/op=15\/op=16\/op=17\/op=18\/op=19\/op=20\/op=21:=by omega
theorem Dc(op:Int):Yr op=true↔1<=op/\op<=21:=by simp [Yr]
theorem Qyg(op:Int):(Zw op=false/\Zx op=false/\Zl op=false/\Zg op=false)\/(Zw op=true/\Zx op=false/\Zl op=false/\Zg op=false)\/
 (Zw op=false/\Zx op=true/\Zl op=false/\Zg op=false)\/(Zw op=false/\Zx op=false/\Zl op=true/\Zg op=false)\/
 (Zw op=false/\Zx op=false/\Zl op=false/\Zg op=true):=by
 rcases Dh op with h|h|h|h|h|h|h|h|h|h|h|h|h|h|h|h|h|h|h|h|h|h|h
 ·left;simp [Zw,Zx,Zl,Zg];omega
 ·left;simp [Zw,Zx,Zl,Zg];omega
 all_goals(subst h;decide)
def Jc:List Nd->Int->Int
 |[],_=>0
 |n :: r,a=>bif Zd n a !=0 then Zd n a else Jc r (a+1)
def check(l:List Nd):Int:=bif decide (l.length=0)then 3 else bif decide (200 < l.length)then 8 else Jc l 0
theorem Wq(l:List Nd)(k:Nat)(n:Nd)(h:l[k]?=some n):
 Jc (l.drop k) k=bif Zd n k !=0 then Zd n k else Jc (l.drop (k+1)) ((k+1:Nat):Int):=by
 obtain⟨hk,rfl⟩:=List.getElem?_eq_some_iff.1 h;rw [List.drop_eq_getElem_cons hk];rfl
def Qg(w w':World):Prop:=Below w.heap.size w w'
section
variable {a b c w:World}
theorem Qg.refl(w:World):Qg w w:=Below.refl _ _
theorem Qg.size(h:Qg a b):a.heap.size<=b.heap.size:=Below.size h
theorem Qg.trans(h:Qg a b)(k:Qg b c):Qg a c:=Below.trans h (Below.mono k h.size)
theorem Qg.alloc(h:Qg a b)(o:Obj):Qg a (b.alloc o):=Below.alloc h h.size o
theorem Qg.drew(h:Qg a b):Qg a b.drew:=Below.drew h
theorem Qg.drewN(h:Qg a b)(n:Nat):Qg a (b.drewN n):=⟨h.os,h.tape,h.output,h.size,h.block⟩
theorem Qg.setCell(h:Qg a b) {p:Addr}(hp:a.heap.size<=p.block)(u:Value):Qg a (b.setCell p u):=Below.setCell h hp u
theorem Qg.grown(h:Qg a b) {row:Option Nat}(hg:b.grownBy c row)(hr:∀k,row=some k->a.heap.size<=k):Qg a c:=Below.grown h hg h.size hr
theorem Qg.cell(h:Qg a b) {p:Addr}(hp:p.block < a.heap.size):b.cell? p=a.cell? p:=Below.cell h hp
theorem Qg.frozen(h:Qg a b) {p:Addr}(hp:p.block < a.heap.size):b.frozen? p=a.frozen? p:=Below.frozen h hp
theorem Qg.block(h:Qg a b) {k:Nat}(hk:k < a.heap.size):b.heap[k]?=a.heap[k]?:=Below.block h k hk
theorem Qg.facts(h:Qg a b):(∀k o,k < a.heap.size->b.cell? ⟨k,o,none⟩=a.cell? ⟨k,o,none⟩)/\(∀k o,k < a.heap.size->b.frozen? ⟨k,o,none⟩=a.frozen? ⟨k,o,none⟩)/\a.heap.size<=b.heap.size :=
 ⟨fun _ _ hk=>h.cell hk,fun _ _ hk=>h.frozen hk,h.size⟩
end
theorem Qz {w:World} :Qg w w:=Qg.refl w
theorem Qn3(op:Int)(w:World)(h:op<=0\/22<=op):
 Calls Tryz.prog 161 #[.int .i64 op] w fun e w'=>e=.returned (.tuple #[Um op,.bool (Yr op)])/\Qg w w':=by
 have e1:(op==1)=false:=by simp;omega
 have e2:(op==2)=false:=by simp;omega
 have e3:(op==3)=false:=by simp;omega
 have e4:(op==4)=false:=by simp;omega
 have e5:(op==5)=false:=by simp;omega
 have e6:(op==6)=false:=by simp;omega
 have e7:(op==7)=false:=by simp;omega
 have e8:(op==8)=false:=by simp;omega
 have e9:(op==9)=false:=by simp;omega
 have e10:(op==10)=false:=by simp;omega
 have e11:(op==11)=false:=by simp;omega
 have e12:(op==12)=false:=by simp;omega
 have e13:(op==13)=false:=by simp;omega
 have e14:(op==14)=false:=by simp;omega
 have e15:(op==15)=false:=by simp;omega
 have e16:(op==16)=false:=by simp;omega
 have e17:(op==17)=false:=by simp;omega
 have e18:(op==18)=false:=by simp;omega
 have e19:(op==19)=false:=by simp;omega
 have e20:(op==20)=false:=by simp;omega
 have e21:(op==21)=false:=by simp;omega
 have hU:Um op=.agg #[.bool false,.bool false,.bool false,.bool false,.bool false,.bool false,.int .i64 0]:=by
  have a:(decide (4<=op)&&decide (op<=21))=false:=by simp;omega
  have b:(decide (5<=op)&&decide (op<=8))=false:=by simp;omega
  have c:(decide (11<=op)&&decide (op<=13))=false:=by simp;omega
  have d:(decide (18<=op)&&decide (op<=21))=false:=by simp;omega
  simp only [Um,Qi,Qe,Zw,Zx,Zl,Zg,Vk,a,b,c,d,e3,e9,e10,e11,e12,e13,e14,e15,e16,e17,e19,e21];rfl
 have hI:Yr op=false:=by simp [Yr];omega
 rw [hU,hI];clear hU hI h;go_enter Tryz.func161,Tryz.ntmps161;go_wp2;exact bodyPost_ret (v:=.tuple #[.agg #[.bool false,.bool false,.bool false,.bool false,.bool false,.bool false,.int .i64 0],.bool false]) (by simp [results,Tryz.results161,go_sem]) rfl ⟨rfl,Qz.alloc _⟩
theorem Zyz(w:World):
 Calls Tryz.prog 161 #[.int .i64 1] w fun e w'=>e=.returned (.tuple #[Um 1,.bool (Yr 1)])/\Qg w w':=by
 go_enter Tryz.func161,Tryz.ntmps161;go_wp2;exact bodyPost_ret (v:=.tuple #[.agg #[.bool false,.bool false,.bool false,.bool false,.bool false,.bool false,.int .i64 0],.bool true]) (by simp [results,Tryz.results161,go_sem]) rfl ⟨rfl,Qz.alloc _⟩
theorem Zyj(w:World):
 Calls Tryz.prog 161 #[.int .i64 2] w fun e w'=>e=.returned (.tuple #[Um 2,.bool (Yr 2)])/\Qg w w':=by
 go_enter Tryz.func161,Tryz.ntmps161;go_wp2;exact bodyPost_ret (v:=.tuple #[.agg #[.bool false,.bool false,.bool false,.bool false,.bool false,.bool false,.int .i64 0],.bool true]) (by simp [results,Tryz.results161,go_sem]) rfl ⟨rfl,Qz.alloc _⟩
theorem Zyy(w:World):
 Calls Tryz.prog 161 #[.int .i64 3] w fun e w'=>e=.returned (.tuple #[Um 3,.bool (Yr 3)])/\Qg w w':=by
 go_enter Tryz.func161,Tryz.ntmps161;go_wp2;exact bodyPost_ret (v:=.tuple #[.agg #[.bool false,.bool false,.bool true,.bool false,.bool false,.bool false,.int .i64 0],.bool true]) (by simp [results,Tryz.results161,go_sem]) rfl ⟨rfl,Qz.alloc _⟩
theorem Zyv(w:World):
 Calls Tryz.prog 161 #[.int .i64 4] w fun e w'=>e=.returned (.tuple #[Um 4,.bool (Yr 4)])/\Qg w w':=by
 go_enter Tryz.func161,Tryz.ntmps161;go_wp2;exact bodyPost_ret (v:=.tuple #[.agg #[.bool true,.bool false,.bool false,.bool false,.bool false,.bool false,.int .i64 0],.bool true]) (by simp [results,Tryz.results161,go_sem]) rfl ⟨rfl,Qz.alloc _⟩
theorem Zyk(w:World):
 Calls Tryz.prog 161 #[.int .i64 5] w fun e w'=>e=.returned (.tuple #[Um 5,.bool (Yr 5)])/\Qg w w':=by
 go_enter Tryz.func161,Tryz.ntmps161;go_wp2;exact bodyPost_ret (v:=.tuple #[.agg #[.bool true,.bool true,.bool false,.bool false,.bool false,.bool false,.int .i64 0],.bool true]) (by simp [results,Tryz.results161,go_sem]) rfl ⟨rfl,Qz.alloc _⟩
theorem Zyx(w:World):
 Calls Tryz.prog 161 #[.int .i64 6] w fun e w'=>e=.returned (.tuple #[Um 6,.bool (Yr 6)])/\Qg w w':=by
 go_enter Tryz.func161,Tryz.ntmps161;go_wp2;exact bodyPost_ret (v:=.tuple #[.agg #[.bool true,.bool true,.bool false,.bool false,.bool false,.bool false,.int .i64 0],.bool true]) (by simp [results,Tryz.results161,go_sem]) rfl ⟨rfl,Qz.alloc _⟩
theorem Zyg(w:World):
 Calls Tryz.prog 161 #[.int .i64 7] w fun e w'=>e=.returned (.tuple #[Um 7,.bool (Yr 7)])/\Qg w w':=by
 go_enter Tryz.func161,Tryz.ntmps161;go_wp2;exact bodyPost_ret (v:=.tuple #[.agg #[.bool true,.bool true,.bool false,.bool false,.bool false,.bool false,.int .i64 0],.bool true]) (by simp [results,Tryz.results161,go_sem]) rfl ⟨rfl,Qz.alloc _⟩
theorem Zyf(w:World):
 Calls Tryz.prog 161 #[.int .i64 8] w fun e w'=>e=.returned (.tuple #[Um 8,.bool (Yr 8)])/\Qg w w':=by
 go_enter Tryz.func161,Tryz.ntmps161;go_wp2;exact bodyPost_ret (v:=.tuple #[.agg #[.bool true,.bool true,.bool false,.bool false,.bool false,.bool false,.int .i64 0],.bool true]) (by simp [results,Tryz.results161,go_sem]) rfl ⟨rfl,Qz.alloc _⟩
theorem Zyb(w:World):
 Calls Tryz.prog 161 #[.int .i64 9] w fun e w'=>e=.returned (.tuple #[Um 9,.bool (Yr 9)])/\Qg w w':=by
 go_enter Tryz.func161,Tryz.ntmps161;go_wp2;exact bodyPost_ret (v:=.tuple #[.agg #[.bool true,.bool false,.bool false,.bool true,.bool false,.bool false,.int .i64 1],.bool true]) (by simp [results,Tryz.results161,go_sem]) rfl ⟨rfl,Qz.alloc _⟩
theorem Zzz(w:World):
 Calls Tryz.prog 161 #[.int .i64 10] w fun e w'=>e=.returned (.tuple #[Um 10,.bool (Yr 10)])/\Qg w w':=by
 go_enter Tryz.func161,Tryz.ntmps161;go_wp2;exact bodyPost_ret (v:=.tuple #[.agg #[.bool true,.bool false,.bool false,.bool true,.bool false,.bool false,.int .i64 1],.bool true]) (by simp [results,Tryz.results161,go_sem]) rfl ⟨rfl,Qz.alloc _⟩
theorem Zzj(w:World):
 Calls Tryz.prog 161 #[.int .i64 11] w fun e w'=>e=.returned (.tuple #[Um 11,.bool (Yr 11)])/\Qg w w':=by
 go_enter Tryz.func161,Tryz.ntmps161;go_wp2;exact bodyPost_ret (v:=.tuple #[.agg #[.bool true,.bool false,.bool false,.bool false,.bool true,.bool false,.int .i64 2],.bool true]) (by simp [results,Tryz.results161,go_sem]) rfl ⟨rfl,Qz.alloc _⟩
theorem Zzy(w:World):
 Calls Tryz.prog 161 #[.int .i64 12] w fun e w'=>e=.returned (.tuple #[Um 12,.bool (Yr 12)])/\Qg w w':=by
 go_enter Tryz.func161,Tryz.ntmps161;go_wp2;exact bodyPost_ret (v:=.tuple #[.agg #[.bool true,.bool false,.bool false,.bool false,.bool true,.bool false,.int .i64 4],.bool true]) (by simp [results,Tryz.results161,go_sem]) rfl ⟨rfl,Qz.alloc _⟩
theorem Zzv(w:World):
 Calls Tryz.prog 161 #[.int .i64 13] w fun e w'=>e=.returned (.tuple #[Um 13,.bool (Yr 13)])/\Qg w w':=by
 go_enter Tryz.func161,Tryz.ntmps161;go_wp2;exact bodyPost_ret (v:=.tuple #[.agg #[.bool true,.bool true,.bool false,.bool false,.bool true,.bool false,.int .i64 8],.bool true]) (by simp [results,Tryz.results161,go_sem]) rfl ⟨rfl,Qz.alloc _⟩
theorem Zzk(w:World):
 Calls Tryz.prog 161 #[.int .i64 14] w fun e w'=>e=.returned (.tuple #[Um 14,.bool (Yr 14)])/\Qg w w':=by
 go_enter Tryz.func161,Tryz.ntmps161;go_wp2;exact bodyPost_ret (v:=.tuple #[.agg #[.bool true,.bool true,.bool false,.bool true,.bool false,.bool false,.int .i64 16],.bool true]) (by simp [results,Tryz.results161,go_sem]) rfl ⟨rfl,Qz.alloc _⟩
theorem Zzx(w:World):
 Calls Tryz.prog 161 #[.int .i64 15] w fun e w'=>e=.returned (.tuple #[Um 15,.bool (Yr 15)])/\Qg w w':=by
 go_enter Tryz.func161,Tryz.ntmps161;go_wp2;exact bodyPost_ret (v:=.tuple #[.agg #[.bool true,.bool false,.bool false,.bool true,.bool false,.bool false,.int .i64 32],.bool true]) (by simp [results,Tryz.results161,go_sem]) rfl ⟨rfl,Qz.alloc _⟩
theorem Zzg(w:World):
 Calls Tryz.prog 161 #[.int .i64 16] w fun e w'=>e=.returned (.tuple #[Um 16,.bool (Yr 16)])/\Qg w w':=by
 go_enter Tryz.func161,Tryz.ntmps161;go_wp2;exact bodyPost_ret (v:=.tuple #[.agg #[.bool true,.bool true,.bool false,.bool false,.bool false,.bool false,.int .i64 64],.bool true]) (by simp [results,Tryz.results161,go_sem]) rfl ⟨rfl,Qz.alloc _⟩
theorem Zzf(w:World):
 Calls Tryz.prog 161 #[.int .i64 17] w fun e w'=>e=.returned (.tuple #[Um 17,.bool (Yr 17)])/\Qg w w':=by
 go_enter Tryz.func161,Tryz.ntmps161;go_wp2;exact bodyPost_ret (v:=.tuple #[.agg #[.bool true,.bool false,.bool false,.bool false,.bool false,.bool true,.int .i64 128],.bool true]) (by simp [results,Tryz.results161,go_sem]) rfl ⟨rfl,Qz.alloc _⟩
theorem Zzb(w:World):
 Calls Tryz.prog 161 #[.int .i64 18] w fun e w'=>e=.returned (.tuple #[Um 18,.bool (Yr 18)])/\Qg w w':=by
 go_enter Tryz.func161,Tryz.ntmps161;go_wp2;exact bodyPost_ret (v:=.tuple #[.agg #[.bool true,.bool false,.bool false,.bool false,.bool false,.bool false,.int .i64 256],.bool true]) (by simp [results,Tryz.results161,go_sem]) rfl ⟨rfl,Qz.alloc _⟩
theorem Zzd(w:World):
 Calls Tryz.prog 161 #[.int .i64 19] w fun e w'=>e=.returned (.tuple #[Um 19,.bool (Yr 19)])/\Qg w w':=by
 go_enter Tryz.func161,Tryz.ntmps161;go_wp2;exact bodyPost_ret (v:=.tuple #[.agg #[.bool true,.bool true,.bool false,.bool false,.bool false,.bool false,.int .i64 256],.bool true]) (by simp [results,Tryz.results161,go_sem]) rfl ⟨rfl,Qz.alloc _⟩
theorem Zzn(w:World):
 Calls Tryz.prog 161 #[.int .i64 20] w fun e w'=>e=.returned (.tuple #[Um 20,.bool (Yr 20)])/\Qg w w':=by
 go_enter Tryz.func161,Tryz.ntmps161;go_wp2;exact bodyPost_ret (v:=.tuple #[.agg #[.bool true,.bool false,.bool false,.bool false,.bool false,.bool false,.int .i64 256],.bool true]) (by simp [results,Tryz.results161,go_sem]) rfl ⟨rfl,Qz.alloc _⟩
theorem Zzr(w:World):
 Calls Tryz.prog 161 #[.int .i64 21] w fun e w'=>e=.returned (.tuple #[Um 21,.bool (Yr 21)])/\Qg w w':=by
 go_enter Tryz.func161,Tryz.ntmps161;go_wp2;exact bodyPost_ret (v:=.tuple #[.agg #[.bool true,.bool true,.bool false,.bool false,.bool false,.bool false,.int .i64 256],.bool true]) (by simp [results,Tryz.results161,go_sem]) rfl ⟨rfl,Qz.alloc _⟩
theorem Qw2(op:Int)(w:World):
 Calls Tryz.prog 161 #[.int .i64 op] w fun e w'=>e=.returned (.tuple #[Um op,.bool (Yr op)])/\Qg w w':=by
 rcases Dh op with h|h|h|h|h|h|h|h|h|h|h|h|h|h|h|h|h|h|h|h|h|h|h
 ·exact Qn3 op w (.inl h)
 ·exact Qn3 op w (.inr h)
 ·rw [h];exact Zyz w
 ·rw [h];exact Zyj w
 ·rw [h];exact Zyy w
 ·rw [h];exact Zyv w
 ·rw [h];exact Zyk w
 ·rw [h];exact Zyx w
 ·rw [h];exact Zyg w
 ·rw [h];exact Zyf w
 ·rw [h];exact Zyb w
 ·rw [h];exact Zzz w
 ·rw [h];exact Zzj w
 ·rw [h];exact Zzy w
 ·rw [h];exact Zzv w
 ·rw [h];exact Zzk w
 ·rw [h];exact Zzx w
 ·rw [h];exact Zzg w
 ·rw [h];exact Zzf w
 ·rw [h];exact Zzb w
 ·rw [h];exact Zzd w
 ·rw [h];exact Zzn w
 rw [h];exact Zzr w
theorem Qrp(u:Bool)(field at_:Int)(w:World):
 Calls Tryz.prog 167 #[.bool u,.int .i64 field,.int .i64 at_] w fun e w'=>e=.returned (.bool (Zy u field at_))/\w=w':=by
 cases u
 ·go_enter Tryz.func167,Tryz.ntmps167;go_wp2;go_ret;exact⟨rfl,rfl⟩
 by_cases h:0<=field
 ·go_enter Tryz.func167,Tryz.ntmps167;go_wp2
  all_goals
   go_ret;refine⟨?_,rfl⟩;simp [Zy];omega
 go_enter Tryz.func167,Tryz.ntmps167;go_wp2
 all_goals
  go_ret;refine⟨?_,rfl⟩;simp [Zy];omega
theorem Qrc(u:Bool)(v low mP:Int)(w:World):
 Calls Tryz.prog 168 #[.bool u,.int .i64 v,.int .i64 low,.int .i64 mP] w fun e w'=>e=.returned (.bool (Ql u v low mP))/\w=w':=by
 cases u
 ·go_enter Tryz.func168,Tryz.ntmps168;go_wp2;go_ret;exact⟨rfl,rfl⟩
 by_cases h:v < low
 ·go_enter Tryz.func168,Tryz.ntmps168;go_wp2
  all_goals
   go_ret;refine⟨?_,rfl⟩;simp [Ql];omega
 go_enter Tryz.func168,Tryz.ntmps168;go_wp2
 all_goals
  go_ret;refine⟨?_,rfl⟩;simp [Ql];omega
theorem Nm(op:Int)(ux uy uf ua ug ue o:Bool)(hx:Qi op=ux)(hy:Qe op=uy)(hf:Zw op=uf)(ha:Zx op=ua)(hg:Zl op=ug)(he:Zg op=ue)(ho:Yr op=o)(w:World):
 Calls Tryz.prog 161 #[.int .i64 op] w fun e w'=>e=.returned (.tuple #[.agg #[.bool ux,.bool uy,.bool uf,.bool ua,.bool ug,.bool ue,.int .i64 (Vk op)],.bool o])/\Qg w w':=by
 subst hx hy hf ha hg he ho;exact Qw2 op w
theorem Qxf(n:Nd)(at_:Int)(w:World)(h:Yr n.op=false):
 Calls Tryz.prog 102 #[n.val,.int .i64 at_] w fun e w'=>e=.returned (.int .i64 10)/\Qg w w':=by
 unfold Nd.val;have H:=Qq h;clear h;go_enter Tryz.func102,Tryz.ntmps102;go_wp2_with(go_at_call 161;refine(Nm _ _ _ _ _ _ _ _ rfl rfl rfl rfl rfl rfl H.out _).mono ?_;rintro e w1 ⟨rfl,hb⟩);go_ret;exact⟨rfl,((Qz.alloc _).trans hb).alloc _⟩
theorem Lo(u:Bool)(field at_:Int)(r:Bool)(h:Zy u field at_=r)(w:World):
 Calls Tryz.prog 167 #[.bool u,.int .i64 field,.int .i64 at_] w fun e w'=>e=.returned (.bool r)/\w=w':=by
 subst h;exact Qrp u field at_ w
theorem Qqh(u:Bool)(v low mP:Int)(r:Bool)(h:Ql u v low mP=r)(w:World):
 Calls Tryz.prog 168 #[.bool u,.int .i64 v,.int .i64 low,.int .i64 mP] w fun e w'=>e=.returned (.bool r)/\w=w':=by
 subst h;exact Qrc u v low mP w
end Go.Proofs.YtkmclcmnoicagaaGreatDoor
