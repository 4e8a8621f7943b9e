/- relation.Has: what it says of the properties 1, 2, 4, 5; frames.In. -/
import Derived.Test.YtkmclcmnoicagaaGreatDoorM01
import Derived.Test.YtkmclcmnoicagaaGreatDoorM18
import Derived.Test.YtkmclcmnoicagaaGreatDoorM16
import Derived.Test.YtkmclcmnoicagaaGreatDoorM10
import Derived.Test.YtkmclcmnoicagaaGreatDoorM09
import Derived.Test.YtkmclcmnoicagaaGreatDoorM13
import Derived.Test.YtkmclcmnoicagaaGreatDoorM07
import Derived.Test.YtkmclcmnoicagaaGreatDoorM17
import Derived.Test.YtkmclcmnoicagaaGreatDoorM08
import Derived.Test.YtkmclcmnoicagaaGreatDoorM14
import Derived.Test.YtkmclcmnoicagaaGreatDoorM20
namespace Go.Proofs.YtkmclcmnoicagaaGreatDoor
set_option maxRecDepth 100000
set_option maxHeartbeats 128000000
open Go.RowKit
theorem Qca:He:=by
 intro v l q w hT h hw hck _ hq;rcases hq with rfl|rfl|rfl|rfl
 ·exact Qcm v l w h hw hck
 ·exact Qcp v l w h hw hck
 ·exact Qcc v l w hT h hw hck
 exact Qch v l w hT h hw hck
theorem Qwk(vm:Value)(md:Md)(lg:Int)(w:World)(hT:Vf w)(hm:MdV w vm md)(hok:md.ok)(hck:Zj md=0)(hlg:0<=lg/\lg<=6):
 Calls Tryz.prog 39 #[vm,.int .i64 lg] w fun e w'=>e=.returned (.bool (inB md lg))/\Ext w w':=Qi5 Qca vm md lg w hT hm hok hck hlg
theorem Qmm(vm:Value)(md:Md)(lg:Int)(w:World)(hm:MdV w vm md)(hlg:¬(0<=lg/\lg<=6)):
 Calls Tryz.prog 39 #[vm,.int .i64 lg] w fun e w'=>e=.returned (.bool false)/\Ext w w':=by
 have HP:=Qq (show p15 lg=1 from if_neg hlg);obtain⟨vv,vr,rfl,hv,hr⟩:=hm;clear hlg hv hr;go_enter Tryz.func39,Tryz.ntmps39;go_wp2_with(go_at_call 98;refine(Mr lg _).mono ?_;rintro e w1 ⟨vp,rfl,hx1,hvp⟩;rw [HP.out];have HX1:=Qq ((((Ext.refl w).alloc _).alloc _).trans hx1);clear hx1 hvp);go_ret;exact⟨rfl,HX1.out⟩
noncomputable def Qq3 (md:Md) (lg:Int):Bool:=decide (0<=lg/\lg<=6)&&inB md lg
theorem Qlw(vm:Value)(md:Md)(lg:Int)(w:World)(hT:Vf w)(hm:MdV w vm md)(hok:md.ok)(hck:Zj md=0):
 Calls Tryz.prog 39 #[vm,.int .i64 lg] w fun e w'=>e=.returned (.bool (Qq3 md lg))/\Ext w w':=by
 unfold Qq3;by_cases h:0<=lg/\lg<=6
 ·rw [decide_eq_true h,Bool.true_and];exact Qwk vm md lg w hT hm hok hck h
 rw [decide_eq_false h,Bool.false_and];exact Qmm vm md lg w hm h
theorem Qsk {md:Md} {lg:Int}(hck:Zj md=0)(h:Qq3 md lg=true):Nk md lg:=by
 unfold Qq3 at h;rw [Bool.and_eq_true]at h;exact Qcw hck (of_decide_eq_true h.1) h.2
theorem Qwx(vm:Value)(md:Md)(lg:Int)(w:World)(hm:MdV w vm md)(hok:md.ok)(hlg:0<=lg/\lg<=6)(hck:Zj md≠0):
 Calls Tryz.prog 39 #[vm,.int .i64 lg] w fun e w'=>e=.returned (.bool false)/\Ext w w':=by
 have HM:=Qq hm;have HOK:=Qq hok;have HP:=Qq (show p15 lg=0 from if_pos hlg);obtain⟨ck,hcc⟩:∃z,z=Zj md:=⟨_,rfl⟩;have HCC:=Qq hcc;have hck1:(ck==0)=false:=by rw [beq_eq_false_iff_ne,hcc];exact hck
 obtain⟨vv,vr,rfl,hv,hr⟩:=hm;clear hok hlg hck hv hr hcc;go_enter Tryz.func39,Tryz.ntmps39;go_wp2_with(first|(go_at_call 98;refine(Mr lg _).mono ?_;rintro e w1 ⟨vp,rfl,hx1,hvp⟩;rw [HP.out];have HX1:=Qq ((((Ext.refl w).alloc _).alloc _).trans hx1);have hm0:w1.cell? ⟨w.heap.size,0,none⟩=some (.int .i64 md.n):=(hx1.cell (p:=⟨w.heap.size,0,none⟩) (by simp;omega)).trans (by simp);have hm1:w1.cell? ⟨w.heap.size,1,none⟩=some vv:=(hx1.cell (p:=⟨w.heap.size,1,none⟩) (by simp;omega)).trans (by simp);have hm2:w1.cell? ⟨w.heap.size,2,none⟩=some vr:=(hx1.cell (p:=⟨w.heap.size,2,none⟩) (by simp;omega)).trans (by simp);have hb1:w.heap.size+1 < w1.heap.size:=Qy (by simp) hx1.size;clear hx1 hvp)|(go_at_call 93;refine(Ki _ md _ (HM.out.ext HX1.out) HOK.out).mono ?_;rintro e w2 ⟨rfl,hx2⟩;rw [<-HCC.out];have HX2:=Qq (HX1.out.trans hx2);clear hx2))
 go_ret;exact⟨rfl,HX2.out⟩
noncomputable def inG (md:Md) (lg:Int):Bool:=decide (Zj md=0)&&Qq3 md lg
theorem Qns(vm:Value)(md:Md)(lg:Int)(w:World)(hT:Vf w)(hm:MdV w vm md)(hok:md.ok):
 Calls Tryz.prog 39 #[vm,.int .i64 lg] w fun e w'=>e=.returned (.bool (inG md lg))/\Ext w w':=by
 unfold inG;by_cases hc:Zj md=0
 ·rw [decide_eq_true hc,Bool.true_and];exact Qlw vm md lg w hT hm hok hc
 rw [decide_eq_false hc,Bool.false_and];by_cases h:0<=lg/\lg<=6
 ·exact Qwx vm md lg w hm hok h hc
 exact Qmm vm md lg w hm h
theorem Qfa {md:Md} {lg:Int}(h:inG md lg=true):Zj md=0/\Nk md lg:=by
 unfold inG at h;rw [Bool.and_eq_true]at h;have hc:=of_decide_eq_true h.1;exact⟨hc,Qsk hc h.2⟩
theorem Ef(g k:Nat):(⟨g,0,none⟩:Addr).add k=⟨g,k,none⟩:=by unfold Addr.add;cases k <;> simp
def uV(l:List Nat):List Value:=l.map fun(u:Nat)=>Value.int .u64 (u:Int)
theorem Ej:(Tryz.prog.info? 41).map (fun i=>(i.zero,i.size,i.bytes))=some (some (.int .u64 0),1,8):=by kernel_rfl
def Jn(base:Nat)(w:World)(v:Value)(l:List Nat):Prop:=w.ownsRow base 41 1 v l.length (uV l)
section
variable {base:Nat} {w w':World} {v:Value} {l:List Nat} {g n cap k:Nat}
theorem Jn.ext(h:Jn base w v l)(he:Ext w w'):Jn base w' v l:=Zf h he
theorem Jn.nil(base:Nat)(w:World):Jn base w (.slice none 0 0) []:=World.ownsRow_nil _ _ _ _
theorem Jn.slice(h:Jn base w v l)(h0:0 < l.length):∃g cap,v=.slice (some ⟨g,0,none⟩) l.length cap/\g < w.heap.size/\base<=g/\l.length<=cap/\cap<=maxLen/\(∀i,i < l.length->w.cell? ⟨g,i,none⟩=some (.int .u64 ((l.getD i 0:Nat):Int)))/\∀i,w.frozen? ⟨g,i,none⟩=false:=by
 rcases h.2 with⟨_,e0⟩|⟨g,cap,cur,rfl,hb,hg,hnc,hm,hs,ht⟩
 ·omega
 refine⟨g,cap,rfl,Qf hg,hb,hnc,hm,fun i hi=> ?_,fun i=>by simp [World.frozen?,hg]⟩;have h1:(uV l)[i]?=some (.int .u64 ((l.getD i 0:Nat):Int)):=by
  unfold uV;rw [List.getElem?_map,Qk,Qv hi];rfl
 rw [<-ht,List.getElem?_take]at h1
 split at h1
 ·have h2:cur[i]?=some (.int .u64 ((l.getD i 0:Nat):Int)):=by simpa using h1
  simp [World.cell?,hg,h2]
 cases h1
theorem Jn.at_(h:Jn base w (.slice (some ⟨g,0,none⟩) n cap) l)(h0:0 < l.length):n=l.length/\g < w.heap.size/\base<=g/\n<=cap/\cap<=maxLen/\(∀i,i < l.length->w.cell? ⟨g,i,none⟩=some (.int .u64 ((l.getD i 0:Nat):Int)))/\∀i,w.frozen? ⟨g,i,none⟩=false:=by
 obtain⟨g',cap',e,h1,h2,h3,h4,h5,h6⟩:=h.slice h0;injection e with e1 e2 e3;injection e1 with e1;injection e1 with e1;subst e1 e2 e3;exact⟨rfl,h1,h2,h3,h4,h5,h6⟩
theorem Jn.u64s(h:Jn base w v l):Jv w v l:=by
 rcases Nat.eq_zero_or_pos l.length with h0|h0
 ·have:l= []:=List.length_eq_zero_iff.1 h0;subst this;rcases h.2 with⟨e,_⟩|⟨g,cap,cur,rfl,hb,hg,hnc,hm,hs,ht⟩
  ·subst e;exact Oz w
  exact⟨_,cap,rfl,hnc,hm,fun h=>absurd rfl h⟩
 obtain⟨g,cap,rfl,h1,_,h3,h4,h5,_⟩:=h.slice h0;refine⟨_,cap,rfl,h3,h4,fun _=>⟨_,rfl,h1,fun k z hk=> ?_⟩⟩;have hk':=(List.getElem?_eq_some_iff.1 hk).1;have:=h5 k hk';rw [Ef,this,Qk,hk];rfl
theorem Jn.set(h:Jn base w (.slice (some ⟨g,0,none⟩) n cap) l)(hn:l.length=n)(j s:Nat):Jn base (w.setCell ⟨g,j,none⟩ (.int .u64 (s:Int))) (.slice (some ⟨g,0,none⟩) n cap) (l.set j s):=by
 subst hn;have h1:=(World.ownsRow.stored h j (.int .u64 (s:Int))).1;unfold Jn uV;rw [List.length_set,List.map_set];exact h1
theorem Qm5(w:World)(t:TypeId):(w.alloc (.cells #[] t)).ownsRow w.heap.size t 1 (.slice (some ⟨w.heap.size,0,none⟩) 0 0) 0 []:=
 ⟨rfl,.inr ⟨w.heap.size,0,#[],rfl,Nat.le_refl _,heap_alloc_new _ _,Nat.le_refl _,by unfold maxLen;omega,rfl,rfl⟩⟩
theorem Qs2 {ad:Addr}(h:∀i,i < l.length->w.cell? (ad.add i)=some (.int .u64 ((l.getD i 0:Nat):Int))):∀(j:Nat) u,(uV l)[j]?=some u->w.cell? (ad.add j)=some u:=fun j u hj=>by
 unfold uV at hj;rw [List.getElem?_map]at hj;cases e:l[j]? with
 |none=>rw [e]at hj;cases hj
 |some x =>
  rw [e]at hj;have hk:=(List.getElem?_eq_some_iff.1 e).1;rw [h j hk,Qk,e];exact hj
theorem Zqi(l:List Nat):∀u∈uV l,u.oneCell'=true:=fun u hu=>by
 obtain⟨x,_,rfl⟩:=List.mem_map.1 hu;rfl
theorem Zqo(l:List Nat):(uV l).length=l.length:=by simp [uV]
end
def Zjw(w:World)(g n:Nat):Nat:=(List.range (n*n)).countP fun k=>match w.cell? ⟨g,k / n,none⟩with|some (.int _ z)=> !z.toNat.testBit (k % n)|_=>true
def Zji(v:Value):Nat:=match v with| .bool true=>1|_=>0
structure GwS (eu:Bool) (w wr:World) (g cap n:Nat) (r out:List Nat):Prop where
 ext:Ext w wr
 row:Jn w.heap.size wr (.slice (some ⟨g,0,none⟩) n cap) out
 grw:Sz eu r out n
theorem Zd {w:World} {b:Nat} {a0 a1 a2:Value} {t:TypeId}(h:w.heap[b]?=some (.cells #[a0,a1,a2] t (0,0))):w.cell? ⟨b,0,none⟩=some a0/\w.cell? ⟨b,1,none⟩=some a1/\w.cell? ⟨b,2,none⟩=some a2/\b < w.heap.size :=
 ⟨by simp [World.cell?,h],by simp [World.cell?,h],by simp [World.cell?,h],Qf h⟩
theorem Ij(v:Value)(md:Md)(z:Int)(w:World)(h:MdV w v md):
 Calls Tryz.prog 14 #[v,.int .i64 z] w fun e w'=>∃b,e=.returned (.bool b)/\Ext w w':=by
 obtain⟨vv,vr,rfl,hv,hr⟩:=h;obtain⟨Av,cv,rfl,_⟩:=hv;obtain⟨Ar,cr,rfl,_,_,HR⟩:=Bq hr;obtain⟨n,hn⟩:∃n,n=md.n:=⟨_,rfl⟩;rw [<-hn];clear hr hn;by_cases h1:z < n/\n<=64
 ·obtain⟨h2,h3⟩:=h1;go_enter Tryz.func14,Tryz.ntmps14;go_wp2_with fail;go_ret
  first|exact⟨_,rfl,Qz.alloc _⟩|exact⟨.inl rfl,Qz.alloc _⟩|exact⟨.inr rfl,Qz.alloc _⟩
 obtain⟨t,ht⟩:∃t,t=decide (z < n):=⟨_,rfl⟩;by_cases hz:z < n
 all_goals
  (try have h64:¬n<=64:=fun e=>h1 ⟨hz,e⟩)
  clear h1 ht;by_cases hv20:20 < md.val.length
  ·have hi:(20:Int) < (md.val.length:Int):=by omega
   go_enter Tryz.func14,Tryz.ntmps14;go_wp2_with fail;go_ret
   first|exact⟨_,rfl,Qz.alloc _⟩|exact⟨.inl rfl,Qz.alloc _⟩|exact⟨.inr rfl,Qz.alloc _⟩
  have hi20:¬(20:Int) < (md.val.length:Int):=by omega
  by_cases hr10:10 < md.rel.length
  ·have hi:(10:Int) < (md.rel.length:Int):=by omega
   go_enter Tryz.func14,Tryz.ntmps14;go_wp2_with fail;go_ret
   first|exact⟨_,rfl,Qz.alloc _⟩|exact⟨.inl rfl,Qz.alloc _⟩|exact⟨.inr rfl,Qz.alloc _⟩
  have hi10:¬(10:Int) < (md.rel.length:Int):=by omega
  generalize md.rel=rl at *;generalize md.val.length=vl at *;go_enter Tryz.func14,Tryz.ntmps14;go_upto_region 3 with(fail);obtain⟨W0,hW0⟩:∃W,W=w.alloc (.cells #[.int .i64 n,.slice Av vl cv,.slice Ar rl.length cr] 26):=⟨_,rfl⟩;have HX0:=Qq (show Ext w W0 by rw [hW0];exact Qz.alloc _);have HB:=Qq (show W0.heap[w.heap.size]?=some (.cells #[.int .i64 n,.slice Av vl cv,.slice Ar rl.length cr] 26 (0,0)) by rw [hW0];exact heap_alloc_new _ _);rw [<-hW0];clear hW0;obtain⟨b,hb⟩:∃b,b=w.heap.size:=⟨_,rfl⟩;rw [<-hb]at HB⊢;clear hb;go_wp2_with fail;go_loopw [5] (fun v wr=>∃k:Nat,v=.int .i64 (k:Int)/\k<=rl.length/\Hid (Ext W0 wr)) (fun v _=>rl.length - (intOf v).toNat)
  case atStart=>exact⟨0,rfl,Nat.zero_le _,Qq Qz⟩
  case round =>
   obtain⟨k,rfl,hk,HX⟩:=hrel;obtain⟨e0,e1,e2,eb⟩:=Zd ((HX.out.block (Qf HB.out)).trans HB.out);by_cases hlt2:k < rl.length
   ·have hk1:(k:Int) < (rl.length:Int):=by omega
    obtain⟨ad,u,rfl,hadl,hc,hu⟩:=HR.out k hlt2;obtain⟨Au,cu,rfl,_⟩:=hu;have a0:=((HX0.out.trans HX.out).cell (p:=ad.add k) (Qj hadl)).trans hc;have al:(ad.add k).block < wr.heap.size:=by rw [Qc];exact Qy hadl (HX0.out.trans HX.out).size
    generalize (rl.getD k []).length=q at a0;clear hc;by_cases hq:70 < q
    ·have hq1:(70:Int) < (q:Int):=by omega
     go_wp2_with fail;go_ret
     first|exact⟨_,rfl,HX0.out.trans HX.out⟩|exact⟨.inl rfl,HX0.out.trans HX.out⟩|exact⟨.inr rfl,HX0.out.trans HX.out⟩
    have hq1:¬(70:Int) < (q:Int):=by omega
    go_wp2_with fail;go_roundw
    case rel=>exact⟨k+1,by go_num,by omega,HX⟩
    case measure=>simp [intOf];omega
   obtain rfl:rl.length=k:=by omega
   go_wp2_with fail;go_ret
   first|exact⟨_,rfl,HX0.out.trans HX.out⟩|exact⟨.inl rfl,HX0.out.trans HX.out⟩|exact⟨.inr rfl,HX0.out.trans HX.out⟩
theorem Qny {w:World} {b:Nat} {a0 a1 a2 a3 a4 a5:Value} {t:TypeId}(h:w.heap[b]?=some (.cells #[a0,a1,a2,a3,a4,a5] t (0,0))):w.cell? ⟨b,0,none⟩=some a0/\w.cell? ⟨b,1,none⟩=some a1/\w.cell? ⟨b,3,none⟩=some a3/\b < w.heap.size :=
 ⟨by simp [World.cell?,h],by simp [World.cell?,h],by simp [World.cell?,h],Qf h⟩
theorem Qqo {a b n:Nat}(h:a < 2^n):Jz a b < 2^n:=Qji fun i hi=>by
 rw [Xe,Bool.and_eq_true]at hi;exact Ky h hi.1
theorem Px(n:Nat):Zx n < 2^n:=by
 unfold Zx;have:=Nat.two_pow_pos n;omega
theorem Qpi {op:Int} {x y n:Nat}(hx:x < 2^n)(hy:y < 2^n):Sf op x y (Zx n) < 2^n:=by
 have h:=Nat.two_pow_pos n;unfold Sf
 repeat' split
 ·exact Px n
 ·exact Qqo (Px n)
 ·exact Nat.lt_of_le_of_lt Nat.and_le_left hx
 ·exact Nat.or_lt_two_pow hx hy
 ·exact Nat.or_lt_two_pow (Qqo (Px n)) hy
 ·exact Qqo (Px n)
 exact h
theorem Qe7 {md:Md}(hck:Zj md=0) {n:Nd} {x y:Nat}(hx:x < 2^md.n.toNat)(hy:y < 2^md.n.toNat):Qyq md n x y < 2^md.n.toNat:=by
 unfold Qyq
 split
 ·have hb:=(Zv hck).2.2.2.2.2.1;unfold Zi at hb;rw [List.any_eq_false]at hb;rw [Qk];cases e:md.val[n.i.toNat]? with
  |none=>exact Nat.two_pow_pos _
  |some s =>
   have:=hb s (List.mem_of_getElem? e)
   simpa using this
 split
 ·exact Qpi hx hy
 split
 ·exact Bf _ _
 split
 ·exact Qqo (Px _)
 split
 ·exact Bf _ _
 split
 ·exact Bf _ _
 exact Bf _ _
theorem Wz {l:List Nat} {b:Nat}(h:∀s∈l,s < b)(hb:0 < b)(i:Nat):l.getD i 0 < b:=by
 rw [Qk];cases e:l[i]? with
 |none=>exact hb
 |some s=>exact h s (List.mem_of_getElem? e)
def Qjf(r:List Nat)(s:Nat):Nat:=if Vz r.length r=0 then Jz (Zx r.length) (Kr r r.length (Zx 64^^^s))else 0
theorem Qrw {s:Nat}(hs:Qw s):Qw (Zx 64^^^s):=Qb1 (Xo (Nat.le_refl _)) hs
theorem Qrb {s:Nat}(hs:Qw s):bits .xor .u64 IntKind.u64.max (s:Int)=((Zx 64^^^s:Nat):Int):=Qg3 (a:=Zx 64) (Xo (Nat.le_refl _)) hs
theorem Qhk(v:Value)(r:List Nat)(s:Nat)(w:World)(h:Jv w v r)(hw:∀s∈r,Qw s)(hs:Qw s):
 Calls Tryz.prog 187 #[v,.int .u64 (s:Int)] w fun e w'=>e=.returned (.int .u64 ((Qjf r s:Nat):Int))/\Ext w w':=by
 have H:=Qq h;obtain⟨A,c,rfl,_,_,HL⟩:=Gy h;have HWD:=Qq hw;have HS:=Qq (Qrw hs);have HCO:=Qq (Qrb hs);clear h hw hs;by_cases hck:Vz r.length r=0
 ·have hn:=Bx hck;have HC:=Qq hck;have HB:=Qq (show Bm r (Zx 64^^^s)=Kr r r.length (Zx 64^^^s) by unfold Bm;rw [if_pos HC.out]);have HD:=Qq (show Qjf r s=Jz (Zx r.length) (Bm r (Zx 64^^^s)) by rw [HB.out];unfold Qjf;rw [if_pos HC.out]);have HAN:=Qq (Vi (a:=Zx r.length) (b:=Bm r (Zx 64^^^s)) (Xo hn) (by rw [HB.out];exact Lm hn _));clear hck;go_enter Tryz.func187,Tryz.ntmps187;go_wp2_with(first|(go_at_call 113;refine(Xm _ r _ H.out HWD.out).mono ?_;rintro e w1 ⟨rfl,hx1⟩;rw [HC.out];have HX1:=Qq hx1;clear hx1)|(go_at_call 115;refine(Wt r.length hn _).mono ?_;rintro e w3 ⟨rfl,rfl⟩)|(rw [HCO.out];go_at_call 186;refine(Tt _ r _ _ (H.out.ext HX1.out) HWD.out HS.out).mono ?_;rintro e w4 ⟨rfl,hx4⟩;have HX4:=Qq hx4;clear hx4))
  go_ret;exact⟨by rw [HD.out,<-HAN.out] <;> rfl,HX1.out.trans HX4.out⟩
 have HC:=Qq hck;have HB:=Qq (show Qjf r s=0 by unfold Qjf;rw [if_neg HC.out]);obtain⟨ce,hce⟩:∃z,z=Vz r.length r:=⟨_,rfl⟩;rw [<-hce]at hck;have hne:(ce !=0)=true:=by simpa using hck
 have HCE:=Qq hce;clear hck hce;go_enter Tryz.func187,Tryz.ntmps187;go_wp2_with(go_at_call 113;refine(Xm _ r _ H.out HWD.out).mono ?_;rintro e w1 ⟨rfl,hx1⟩;rw [<-HCE.out];have HX1:=Qq hx1;clear hx1);go_ret;exact⟨by rw [HB.out] <;> rfl,HX1.out⟩
theorem Qda(v:Value)(r:List Nat)(n c s:Nat)(w:World)(h:Jv w v r)(hw:∀s∈r,Qw s)(hl:r.length=n)(hck:Vz r.length r=0)(hc:Qw c)(hs:Qw s):
 Calls Tryz.prog 190 #[v,.int .u64 ((Zx n:Nat):Int),.int .u64 (c:Int),.int .u64 (s:Int)] w fun e w'=>e=.returned (.int .u64 ((Gm r n c s:Nat):Int))/\Ext w w':=by
 have H:=Qq h;have HWD:=Qq hw;have hn:n<=64:=by rw [<-hl];exact Bx hck
 have HRL:=Qq (Qyk (r:=r) (n:=n) hl (by
  have:=(Rw (l:=r)).1 (by unfold Re;rw [hck];rfl);rw [hl]at this;exact this.2))
 have HAW:=Qq (Xo hn);have HC:=Qq hc;have HS:=Qq hs;have HBX:=Qq (show ∀m,Bm r m=Kr r n m from fun m=>by unfold Bm;rw [if_pos hck,hl]);have HA1:=Qq (Vi (Xo hn) hc);clear h hw hck hc hs hl;go_enter Tryz.func190,Tryz.ntmps190;go_wp2_with fail;go_loopw [9] (fun v wr=>∃out:Nat,v=.int .u64 (out:Int)/\Hid (Qw out)/\Hid (Ext w wr)/\Hid ((∀i,(Gm r n c s).testBit i=true->out.testBit i=true)/\∀i,(gfF r n c s out).testBit i=true->out.testBit i=true)) (fun v _=>(intOf v).toNat)
 case atStart=>exact⟨Zx n,rfl,HAW,Qq Qz,Qq ⟨Qfz HRL.out,Qcs HRL.out⟩⟩
 case round =>
  obtain⟨out,rfl,HO,HX,HI⟩:=hrel;have HA2:=Qq (Ud HS.out HO.out);have HA3:=Qq (Bk (a:=Jz (Zx n) c) (b:=s&&&out) (Si HAW.out) (Qjy HS.out));have HMW:=Qq (show Qw (Jz (Zx n) c|||(s&&&out))from Qn0 (Si HAW.out) (Qjy HS.out));obtain⟨nx,hnx⟩:∃x,x=gfF r n c s out:=⟨_,rfl⟩;have HNX:=Qq hnx;have HBE:=Qq (show Bm r (Jz (Zx n) c|||(s&&&out))=nx by rw [HBX.out,hnx];rfl);have HNW:=Qq (show Qw nx by rw [hnx];exact Lm hn _);clear hnx;by_cases hd:nx=out
  ·have heq:((nx:Int)==(out:Int))=true:=by simp [hd]
   have HE:=Qq (Qrc HRL.out (by rw [<-HNX.out];exact hd) HI.out.1);clear hd;go_wp2_with(rw [HA1.out,HA2.out,HA3.out];go_at_call 186;refine(Tt _ r _ _ (H.out.ext HX.out) HWD.out HMW.out).mono ?_;rintro e w4 ⟨rfl,hx4⟩;rw [HBE.out];have HX4:=Qq hx4;clear hx4);go_ret;exact⟨by rw [HE.out] <;> rfl,HX.out.trans HX4.out⟩
  have heq:((nx:Int)==(out:Int))=false:=by simp only [beq_eq_false_iff_ne,ne_eq,Int.natCast_inj];exact hd
  have HLT:=Qq (Zqy (by rw [HNX.out];exact HI.out.2) hd);clear hd;go_wp2_with(rw [HA1.out,HA2.out,HA3.out];go_at_call 186;refine(Tt _ r _ _ (H.out.ext HX.out) HWD.out HMW.out).mono ?_;rintro e w4 ⟨rfl,hx4⟩;rw [HBE.out];have HX4:=Qq hx4;clear hx4);go_roundw
  case rel=>exact⟨nx,rfl,HNW,Qq (HX.out.trans HX4.out),Qq (by rw [HNX.out];exact⟨Qfq HRL.out HI.out.1,Qir HRL.out HI.out.2⟩)⟩
  case measure=>have:=HLT.out;simp [intOf];omega
theorem Qsi(v:Value)(l:List Nat)(w:World)(h:Jv w v l)(h0:0 < l.length)(h64:l.length<=64):
 Calls Tryz.prog 221 #[v] w fun e w'=>∃u,e=.returned u/\Jn w.heap.size w' u l/\Ext w w':=by
 obtain⟨A,c,rfl,_,_,HL⟩:=Gy h;obtain⟨iU,hiU,hzU0,hzU1,hzU2⟩:=info_parts Ej;clear h;obtain⟨ad,rfl,hadl,_⟩:=HL.out 0 h0;have HNEW:=Qq (show ∀(j:Nat) u,(uV l)[j]?=some u->(w.alloc (.cells #[] 41)).cell? (ad.add j)=some u from Qs2 fun i hi=>by
  obtain⟨ad2,e,_,hc⟩:=HL.out i hi;injection e with e;subst e;exact(((Ext.refl w).alloc _).cell (p:=ad.add i) (Qj hadl)).trans hc)
 have HRE:=Qq (Qm5 w 41);have q:∀(w:World) (a:Option Addr) (n c n' c':Nat),(binOp .eql 23 (.slice a n c) (.slice none n' c')).run Tryz.prog w=.ok (.bool a.isNone) w:=fun w a n c n' c'=>Lib.run_eql_slice_nil w _ _ a n c n' c' Tryz.underlying23
 obtain⟨n,hn⟩:∃n,n=l.length:=⟨_,rfl⟩;have HN:=Qq hn;rw [<-hn]at h64 h0⊢;have hm1:0+n<=maxLen:=by unfold maxLen;omega
 have hm2:(0+n)*8<=140737488355328:=by omega
 clear hn;go_enter Tryz.func221,Tryz.ntmps221;go_wp2_with(at_builtin;refine wpList_append_own_at _ rfl _ _ 23 rfl w.heap.size 41 iU (.int .u64 0) 1 8 Tryz.underlying23 hiU hzU0 hzU1 hzU2 rfl (by decide) _ 0 [] rfl HRE.out ad n c (uV l) rfl (by rw [Zqo,Nat.mul_one];exact HN.out.symm) HNEW.out (Zqi l) hm1 hm2 (by simp) ?_);intro v3 w3 hown3 hgrow3 _ _;have HX3:=Qq (show Ext w w3 from((Ext.refl w).alloc _).grown hgrow3 (fun k hk=>by have h2:w.heap.size=k:=Option.some.inj hk;omega));have HM:=Qq (show Jn w.heap.size w3 v3 l by
  unfold Jn;rw [<-HN.out];exact hown3)
 clear hown3 hgrow3;obtain⟨g,cap,rfl,hgl,hgb,_,hcm,_,_⟩:=HM.out.slice (by rw [<-HN.out];exact h0);rw [<-HN.out]at HM⊢;clear hgl;go_wp2_with fail;go_ret;exact⟨_,rfl,HM.out,HX3.out⟩
def Qft(n:Nat)(meet:Bool):Nat:=if meet then Zx n else 0
def Qja(rl:List (List Nat))(gn:Nat)(meet:Bool)(n k:Nat):List Nat:=(List.range n).map fun i=>(List.range k).foldl (Fa rl gn meet i) (Qft n meet)
def Sg(gn k:Nat):Bool:=(List.range k).any fun a=>gn.testBit a
def Np(rl:List (List Nat))(gn:Nat)(meet:Bool)(n k:Nat):List Nat:=bif Sg gn k then Qja rl gn meet n k else []
theorem Bw(gn k:Nat):Sg gn (k+1)=(Sg gn k||gn.testBit k):=by
 unfold Sg;rw [List.range_succ,List.any_append];simp
theorem Qer {rl:List (List Nat)} {gn n k:Nat} {meet:Bool}(h:gn.testBit k=false):Np rl gn meet n (k+1)=Np rl gn meet n k:=by
 unfold Np;rw [Bw,h,Bool.or_false]
 congr 1
 unfold Qja;refine List.map_congr_left fun i _=> ?_
 rw [Kb];unfold Fa;rw [h];rfl
theorem Qll {rl:List (List Nat)} {gn n k:Nat} {meet:Bool}(h:Sg gn k=false) {i:Nat} :(List.range k).foldl (Fa rl gn meet i) (Qft n meet)=Qft n meet:=by
 induction k with
 |zero=>rfl
 |succ k ih =>
  rw [Bw,Bool.or_eq_false_iff]at h;rw [Kb,ih h.1];unfold Fa;rw [h.2];rfl
theorem Qsz {rl:List (List Nat)} {gn n k:Nat} {meet:Bool}(h:gn.testBit k=true)(hn:Sg gn k=false)(hl:(rl.getD k []).length=n)(hlow:∀s∈rl.getD k [],s < 2^n):Np rl gn meet n (k+1)=rl.getD k []:=by
 unfold Np;rw [Bw,h,Bool.or_true];show Qja rl gn meet n (k+1)=_;refine List.ext_getElem (by rw [hl];unfold Qja;rw [List.length_map,List.length_range]) fun i h1 h2=> ?_
 simp only [Qja,List.getElem_map,List.getElem_range];rw [Kb,Qll hn];unfold Fa Qft;rw [h];have e:(rl.getD k []).getD i 0=(rl.getD k [])[i]:=by rw [Qk,Qv h2];rfl
 rw [e];have hs:=hlow _ (List.getElem_mem h2);cases meet
 ·simp
 simp only [↓reduceIte];refine Nat.eq_of_testBit_eq fun j=> ?_
 rw [Nat.testBit_and,Vl];cases hj:((rl.getD k [])[i]).testBit j
 ·simp
 rw [decide_eq_true (Ky hs hj)];rfl
theorem Qcn {rl:List (List Nat)} {gn n:Nat} {meet:Bool}(h1:1<=gn)(hg:gn < 2^rl.length):Np rl gn meet n rl.length=(List.range n).map (Vw rl gn meet n):=by
 have ha:Sg gn rl.length=true:=by
  obtain⟨i,hi⟩:=Nat.exists_testBit_of_ne_zero (show gn≠0 by omega);exact List.any_eq_true.2 ⟨i,List.mem_range.2 (Ky hg hi),hi⟩
 unfold Np;rw [ha];rfl
theorem Qjm {rl:List (List Nat)} {gn n k:Nat} {meet:Bool}(h:Sg gn k=true):(Np rl gn meet n k).length=n:=by
 unfold Np;rw [h];unfold Qja;simp
def Dd(J:Nat->Nat->Nat)(o r:List Nat)(k:Nat):List Nat:=(List.range o.length).map fun i=>if i < k then J (o.getD i 0) (r.getD i 0)else o.getD i 0
theorem Qmj(J:Nat->Nat->Nat)(o r:List Nat):Dd J o r 0=o:=by
 refine List.ext_getElem (by simp [Dd]) fun i h1 h2=> ?_
 simp only [Dd,List.getElem_map,List.getElem_range];rw [if_neg (Nat.not_lt_zero _),Qk,Qv h2];rfl
theorem Ts(J:Nat->Nat->Nat)(o r:List Nat)(k:Nat):(Dd J o r k).length=o.length:=by simp [Dd]
theorem Qc2 {J:Nat->Nat->Nat} {o r:List Nat} {k i:Nat}(hi:i < o.length):(Dd J o r k).getD i 0=if i < k then J (o.getD i 0) (r.getD i 0)else o.getD i 0:=by
 unfold Dd;rw [Qk,List.getElem?_map,List.getElem?_range hi];rfl
theorem Qmz {J:Nat->Nat->Nat} {o r:List Nat} {k:Nat}(_hk:k < o.length):(Dd J o r k).set k (J (o.getD k 0) (r.getD k 0))=Dd J o r (k+1):=by
 refine List.ext_getElem (by simp [Dd]) fun i h1 h2=> ?_
 have hi:i < o.length:=by rw [Ts]at h2;exact h2
 rw [List.getElem_set]
 split
 ·rename_i e;subst e;simp only [Dd,List.getElem_map,List.getElem_range];rw [if_pos (Nat.lt_succ_self _)]
 rename_i e;simp only [Dd,List.getElem_map,List.getElem_range];by_cases h3:i < k
 ·rw [if_pos h3,if_pos (by omega)]
 rw [if_neg h3,if_neg (by omega)]
theorem Qlr {rl:List (List Nat)} {gn n k:Nat} {meet:Bool}(h:gn.testBit k=true)(hn:Sg gn k=true):Dd (fun x y=>if meet then x&&&y else x|||y) (Np rl gn meet n k) (rl.getD k []) n=Np rl gn meet n (k+1):=by
 have hl:=Qjm (rl:=rl) (n:=n) (meet:=meet) hn;refine List.ext_getElem (by rw [Ts,hl,Qjm (by rw [Bw,hn];rfl)]) fun i h1 h2=> ?_
 have hi:i < n:=by rw [Ts,hl]at h1;exact h1
 simp only [Dd,List.getElem_map,List.getElem_range,Np,Bw,hn,Bool.true_or,cond_true,Qja];rw [if_pos hi,Kb,Qk,List.getElem?_map,List.getElem?_range hi];simp only [Option.map_some,Option.getD_some];unfold Fa;rw [h];cases meet <;> rfl
theorem Qqp {w:World} {b:Nat} {a0 a1 a2:Value} {t:TypeId}(h:w.heap[b]?=some (.cells #[a0,a1,a2] t (0,0))):w.cell? ⟨b,0,none⟩=some a0/\w.cell? ⟨b,1,none⟩=some a1/\w.cell? ⟨b,2,none⟩=some a2/\b < w.heap.size :=
 ⟨by simp [World.cell?,h],by simp [World.cell?,h],by simp [World.cell?,h],Qf h⟩
theorem Qz3(meet:Bool)(g:Nat)(eg:∀args w,(callFunc g args).run Tryz.prog w=.ok (.enter g args) w)(v:Value)(md:Md)(gn:Nat)(w:World)(h:MdV w v md)(hok:md.ok)(hck:Zj md=0)(hg1:1<=gn)(hg:gn < 2^md.rel.length)
 (hJ:∀(W:World) (x y:Nat),Qw x->Qw y->Calls Tryz.prog g #[.int .u64 (x:Int),.int .u64 (y:Int)] W fun e w'=>e=.returned (.int .u64 ((if meet then x&&&y else x|||y:Nat):Int))/\W=w'):
 Calls Tryz.prog 209 #[v,.int .i64 (gn:Int),.func (.func g) #[] #[]] w fun e w'=>∃u,e=.returned u/\Ext w w'/\Jn w.heap.size w' u ((List.range md.n.toNat).map (Vw md.rel gn meet md.n.toNat)):=by
 have H:=Qq h;have HOK:=Qq hok;have HCK:=Qq hck;have HJ:=Qq hJ;obtain⟨hn1,hn64,hr4,_,hrl0,_,hlow⟩:=Zv hck;obtain⟨vv,vr,rfl,hv,hr⟩:=h;obtain⟨Av,cv,rfl,_⟩:=hv;obtain⟨Ar,cr,rfl,hrl1,hrl2,HR⟩:=Bq hr;obtain⟨n,hnn⟩:=Int.eq_ofNat_of_zero_le (show 0<=md.n by omega);rw [hnn]at hn1 hn64 H hrl0 hlow⊢;have hnt:((n:Nat):Int).toNat=n:=Int.toNat_natCast n;rw [hnt]at hlow⊢;have hn65:n<=64:=by omega
 have hn0:0 < n:=by omega
 have hg2:=decide_eq_false (Qve hr4 hg);have hg3:¬(gn:Int) < 1:=by omega
 have hmin:min md.rel.length 64=md.rel.length:=by omega
 obtain⟨rl,hrl⟩:∃l,l=md.rel:=⟨_,rfl⟩;have HRO:=Qq (show ∀r∈rl,∀s∈r,Qw s by rw [hrl];exact hok.rel);have HRL0:=Qq (show ∀r∈rl,r.length=n by rw [hrl];exact fun r hr=>by have:=hrl0 r hr;omega);have HLO:=Qq (show ∀r∈rl,Zi r n=false by rw [hrl];exact hlow);rw [<-hrl]at HR hrl1 hr4 hg2 hmin hg⊢;have hgs:gn < 9223372036854775808:=by have:(2:Nat)^rl.length<=2^4:=Nat.pow_le_pow_right (by omega) hr4;omega
 have HGA:=Qq (Qcn (rl:=rl) (n:=n) (meet:=meet) hg1 hg);have HX0:=Qq (show Ext w (w.alloc (.cells #[.int .i64 (n:Int),.slice Av md.val.length cv,.slice Ar rl.length cr] 26))from Qz.alloc _);have HB0:=Qq (show(w.alloc (.cells #[.int .i64 (n:Int),.slice Av md.val.length cv,.slice Ar rl.length cr] 26)).heap[w.heap.size]?=some (.cells #[.int .i64 (n:Int),.slice Av md.val.length cv,.slice Ar rl.length cr] 26 (0,0))from heap_alloc_new _ _);have H2:=Qq (show MdV w (.agg #[.int .i64 (n:Int),.slice Av md.val.length cv,.slice Ar rl.length cr]) md by rw [hrl];exact H.out);clear hr hok hck hnn hrl hg hrl0 hnt H hg1 hJ hlow
 go_enter Tryz.func209,Tryz.ntmps209;go_wp2_with(go_at_call 93;refine(Ki _ md _ (H2.out.ext HX0.out) HOK.out).mono ?_;rintro e w1 ⟨rfl,hx1⟩;rw [HCK.out];have HX1:=Qq (HX0.out.trans hx1);have HB1:=Qq ((hx1.block (Qf HB0.out)).trans HB0.out);obtain⟨e0,e1,e2,eb⟩:=Qqp HB1.out;clear hx1);clear e0 e1 e2 eb;go_loopw [7,29] (fun vo vi wr=>∃k:Nat,vi=.int .i64 (k:Int)/\k<=rl.length/\Hid (Ext w1 wr/\Jn w1.heap.size wr vo (Np rl gn meet n k)/\(Sg gn k=false->vo=.slice none 0 0))) (fun _ v _=>rl.length - (intOf v).toNat)
 case atStart=>exact⟨0,rfl,Nat.zero_le _,Qq ⟨Qz,Jn.nil _ _,fun _=>rfl⟩⟩
 case round =>
  obtain⟨k,rfl,hk,HREL⟩:=hrel;have HX:=Qq HREL.out.1;have HM:=Qq HREL.out.2.1;have HNO:=Qq HREL.out.2.2;obtain⟨e0,e1,e2,eb⟩:=Qqp ((HX.out.block (Qf HB1.out)).trans HB1.out);clear HREL;by_cases hlt2:k < rl.length
  ·have hk1:(k:Int) < (rl.length:Int):=by omega
   have hmin2:min k 64=k:=by omega
   obtain⟨ad,u,rfl,hadl,hcl,hu⟩:=HR.out k hlt2;have hmem:rl.getD k []∈rl:=by rw [Qk,Qv hlt2];exact List.getElem_mem hlt2
   have hrlen:(rl.getD k []).length=n:=HRL0.out _ hmem;have HXT:=Qq (HX1.out.trans HX.out);have a0:=(HXT.out.cell (p:=ad.add k) (Qj hadl)).trans hcl;have al:(ad.add k).block < wr.heap.size:=by rw [Qc];exact Qy hadl HXT.out.size
   have HU:=Qq (hu.ext HXT.out);have HRW:=Qq (HRO.out _ hmem);have HRLO:=Qq (show ∀s∈rl.getD k [],s < 2^n from fun s hs=>by
    have:=List.any_eq_false.1 (HLO.out _ hmem) s hs
    simpa using this)
   have hbt:=Eq gn k hgs;have q:∀(w:World) (a:Option Addr) (n c n' c':Nat),(binOp .eql 23 (.slice a n c) (.slice none n' c')).run Tryz.prog w=.ok (.bool a.isNone) w:=fun w a n c n' c'=>Lib.run_eql_slice_nil w _ _ a n c n' c' Tryz.underlying23
   obtain⟨Au,cu,rfl,_,_,HUA⟩:=Gy hu;rw [hrlen]at HUA;clear hcl;cases htb:gn.testBit k
   ·rw [htb]at hbt;have HNX:=Qq (Qer (rl:=rl) (n:=n) (meet:=meet) htb);have HAK:=Qq (show Sg gn (k+1)=Sg gn k by rw [Bw,htb,Bool.or_false]);clear htb;go_wp2_with fail;go_roundw
    case rel=>exact⟨k+1,by go_num,by omega,Qq ⟨HX.out,by rw [HNX.out];exact HM.out,by rw [HAK.out];exact HNO.out⟩⟩
    case measure=>simp [intOf];omega
   rw [htb]at hbt;have HAK:=Qq (show Sg gn (k+1)=true by rw [Bw,htb,Bool.or_true]);cases hak:Sg gn k
   ·have HNX:=Qq (Qsz (rl:=rl) (n:=n) (meet:=meet) htb hak hrlen HRLO.out);obtain rfl:=HNO.out hak;clear htb hak;rw [hrlen]at HU a0;go_wp2_with(go_at_call 221;refine(Qsi _ (rl.getD k []) _ HU.out (by rw [hrlen];exact hn0) (by rw [hrlen];exact hn65)).mono ?_;rintro e w5 ⟨u5,rfl,hm5,hx5⟩;have HM5:=Qq (Tl hm5 HX.out.size);have HX5:=Qq (HX.out.trans hx5);clear hm5 hx5);go_roundw
    case rel=>exact⟨k+1,by go_num,by omega,Qq ⟨HX5.out,by rw [HNX.out];exact HM5.out,fun h=>by rw [HAK.out]at h;cases h⟩⟩
    case measure=>simp [intOf];omega
   have HNX:=Qq (Qlr (rl:=rl) (n:=n) (meet:=meet) htb hak);have hol:=Qjm (rl:=rl) (n:=n) (meet:=meet) hak;obtain⟨o,ho⟩:∃o,o=Np rl gn meet n k:=⟨_,rfl⟩;rw [<-ho]at HM HNX hol;have HOW:=Qq (show ∀s∈o,Qw s by
    rw [ho];unfold Np;rw [hak];intro s hs;obtain⟨i,_,rfl⟩:=List.mem_map.1 hs;exact Qln (fun s a h=>Qlm HRO.out h) _ _ (by unfold Qft;cases meet;exact(show(0:Nat) < _ by omega);exact Xo hn65))
   obtain⟨g0,cap,rfl,_,hgb,_,_,_,_⟩:=HM.out.slice (by rw [hol];exact hn0);rw [hol]at HM⊢;clear htb hak ho;obtain⟨r0,hr0⟩:∃r,r=rl.getD k []:=⟨_,rfl⟩;have hr0l:r0.length=n:=by rw [hr0];exact hrlen
   have HR0:=Qq hr0;rw [<-hr0]at HRW HNX HUA hrlen a0;rw [hrlen]at a0;clear hr0;obtain⟨wq,hwq⟩:∃v,v=wr:=⟨_,rfl⟩;subst hwq;go_wp2_with fail;clear e0 e1 e2 eb a0 al;have HXQ:=Qq (HX1.out.trans HX.out);go_loopw [45] (fun vi wr=>∃i:Nat,vi=.int .i64 (i:Int)/\i<=n/\Hid (Ext w1 wr/\Ext w wr/\Jn w1.heap.size wr (.slice (some ⟨g0,0,none⟩) n cap) (Dd (fun x y=>if meet then x&&&y else x|||y) o r0 i))) (fun v _=>n - (intOf v).toNat)
   case atStart=>exact⟨0,rfl,Nat.zero_le _,Qq ⟨HX.out,HXQ.out,by rw [Qmj];exact HM.out⟩⟩
   case round =>
    obtain⟨i,rfl,hi,HREL⟩:=hrel;have HXI:=Qq HREL.out.1;have HXW:=Qq HREL.out.2.1;have HMI:=Qq HREL.out.2.2;clear HREL;by_cases hlt3:i < n
    ·have hi1:(i:Int) < (n:Int):=by omega
     obtain⟨-,cl,-,-,-,hcc,hff⟩:=HMI.out.at_ (by rw [Ts,hol];exact hn0);have c0:=hcc i (by rw [Ts,hol];exact hlt3);have f0:=hff i;rw [Qc2 (by rw [hol];exact hlt3),if_neg (Nat.lt_irrefl _)]at c0;obtain⟨ud,rfl,hudl,huc⟩:=HUA.out i hlt3;have d0:=(HXW.out.cell (p:=ud.add i) (Qj hudl)).trans huc;have dl:(ud.add i).block < wr.heap.size:=by rw [Qc];exact Qy hudl HXW.out.size
     have HXWD:=Qq (Rg HOW.out i);have HYWD:=Qq (Rg HRW.out i);have HST:=Qq (Qmz (J:=fun x y=>if meet then x&&&y else x|||y) (o:=o) (r:=r0) (k:=i) (by rw [hol];exact hlt3));obtain⟨x,hx⟩:∃x,x=o.getD i 0:=⟨_,rfl⟩;obtain⟨y,hy⟩:∃y,y=r0.getD i 0:=⟨_,rfl⟩;rw [<-hx]at c0 HXWD HST;rw [<-hy]at d0 HYWD HST;obtain⟨z,hz⟩:∃z,z=(if meet then x&&&y else x|||y):=⟨_,rfl⟩;have HJZ:=Qq (show ∀W:World,Calls Tryz.prog g #[.int .u64 (x:Int),.int .u64 (y:Int)] W fun e w'=>e=.returned (.int .u64 (z:Int))/\W=w' from fun W=>by rw [hz];exact HJ.out W x y HXWD.out HYWD.out);have HSZ:=Qq (show(Dd (fun x y=>if meet then x&&&y else x|||y) o r0 i).set i z=Dd (fun x y=>if meet then x&&&y else x|||y) o r0 (i+1) by rw [hz];exact HST.out)
     clear hcc hff huc hx hy hz HST;go_upto_region 13 with(fail);refine Vx 13 (fun w'=>w'.cell? (⟨g0,i,none⟩)=some (.int .u64 (x:Int))/\w'.cell? (ud.add i)=some (.int .u64 (y:Int))) (by kernel_rfl) ⟨(Ext.cell (p:=⟨g0,i,none⟩) (by repeat(first|exact Qz|assumption|apply Ext.alloc|apply Ext.drew|apply Ext.setCell)) cl).trans c0,(Ext.cell (p:=ud.add i) (by repeat(first|exact Qz|assumption|apply Ext.alloc|apply Ext.drew|apply Ext.setCell)) dl).trans d0⟩ (fun hHeld=> ?_);refine' Zy (i:=0) (v:=_) rfl (by kernel_rfl) (by kernel_rfl) (by kernel_rfl) (by kernel_rfl) (fun _ _ _ h=>h) (Or.inl ⟨by rfl,?hybu11⟩) hHeld ?restbu11
     case hybu11=>(intro w' hSw;(try dsimp only at hSw);go_simp;(try with_reducible rfl))
     refine Qb ?_;refine' Zy (i:=1) (v:=_) rfl (by kernel_rfl) (by kernel_rfl) (by kernel_rfl) (by kernel_rfl) (fun _ _ _ h=>h) (Or.inl ⟨by rfl,?hybu12⟩) hHeld ?restbu12
     case hybu12=>(intro w' hSw;(try dsimp only at hSw);go_simp;(try with_reducible rfl))
     refine Qb ?_;refine' Zy (i:=2) (v:=_) rfl (by kernel_rfl) (by kernel_rfl) (by kernel_rfl) (by kernel_rfl) (fun _ _ _ h=>h) (Or.inl ⟨by rfl,?hybu13⟩) hHeld ?restbu13
     case hybu13=>(intro w' hSw;(try dsimp only at hSw);go_simp;(try with_reducible rfl))
     refine Qb ?_;refine' Zy (i:=3) (v:=_) rfl (by kernel_rfl) (by kernel_rfl) (by kernel_rfl) (by kernel_rfl) (fun _ _ _ h=>h) (Or.inl ⟨by rfl,?hybu14⟩) hHeld ?restbu14
     case hybu14=>(intro w' hSw;(try dsimp only at hSw);go_simp;(try with_reducible rfl))
     refine Qb ?_;refine' Zy (i:=4) (v:=_) rfl (by kernel_rfl) (by kernel_rfl) (by kernel_rfl) (by kernel_rfl) (fun _ _ _ h=>h) (Or.inl ⟨by rfl,?hybu15⟩) hHeld ?restbu15
     case hybu15=>(intro w' hSw;(try dsimp only at hSw);go_simp;(try with_reducible rfl))
     refine Qb ?_;refine' Zy (i:=5) (v:=_) rfl (by kernel_rfl) (by kernel_rfl) (by kernel_rfl) (by kernel_rfl) (fun _ _ _ h=>h) (Or.inl ⟨by rfl,?hybu16⟩) hHeld ?restbu16
     case hybu16=>(intro w' hSw;(try dsimp only at hSw);go_simp;(try with_reducible rfl))
     refine Qb ?_;refine' Zy (i:=6) (v:=_) rfl (by kernel_rfl) (by kernel_rfl) (by kernel_rfl) (by kernel_rfl) (fun _ _ _ h=>h) (Or.inl ⟨by rfl,?hybu17⟩) hHeld ?restbu17
     case hybu17=>(intro w' hSw;(try dsimp only at hSw);go_simp;(try with_reducible rfl))
     refine Qb ?_;refine' Zy (i:=7) (v:=_) rfl (by kernel_rfl) (by kernel_rfl) (by kernel_rfl) (by kernel_rfl) (fun _ _ _ h=>h) (Or.inl ⟨by rfl,?hybu18⟩) hHeld ?restbu18
     case hybu18=>(intro w' hSw;(try dsimp only at hSw);go_simp;(try with_reducible rfl))
     refine Qb ?_;refine' Zy (i:=8) (v:=_) rfl (by kernel_rfl) (by kernel_rfl) (by kernel_rfl) (by kernel_rfl) (fun _ _ _ h=>h) (Or.inl ⟨by rfl,?hybu19⟩) hHeld ?restbu19
     case hybu19=>(intro w' hSw;(try dsimp only at hSw);go_simp;(try with_reducible rfl))
     refine Qb ?_;refine' Zy (i:=9) (v:=_) rfl (by kernel_rfl) (by kernel_rfl) (by kernel_rfl) (by kernel_rfl) (fun _ _ _ h=>h) (Or.inl ⟨by rfl,?hybu110⟩) hHeld ?restbu110
     case hybu110=>(intro w' hSw;(try dsimp only at hSw);go_simp;(try with_reducible rfl))
     refine Qb ?_;refine' Zy (i:=10) (v:=_) rfl (by kernel_rfl) (by kernel_rfl) (by kernel_rfl) (by kernel_rfl) (fun _ _ _ h=>h) (Or.inl ⟨by rfl,?hybu111⟩) hHeld ?restbu111
     case hybu111=>(intro w' hSw;(try dsimp only at hSw);go_simp;(try with_reducible rfl))
     refine Qb ?_;refine Qs (rs:= [11]) (by kernel_rfl) (by simp) ?_;refine Ql.cons rfl (fun K hK=> ?_) Ql.nil;go_simp;refine(HJZ.out _).mono ?_;rintro e w9 ⟨rfl,rfl⟩;go_wp2_with fail;refine hK.out _ _ ⟨(Ext.cell (p:=⟨g0,i,none⟩) (by repeat(first|exact Qz|assumption|apply Ext.alloc|apply Ext.drew|apply Ext.setCell)) cl).trans c0,(Ext.cell (p:=ud.add i) (by repeat(first|exact Qz|assumption|apply Ext.alloc|apply Ext.drew|apply Ext.setCell)) dl).trans d0⟩ (fun hHeld=> ?_);clear hK K;refine Qb ?_;refine' Zy (i:=12) (v:=_) rfl (by kernel_rfl) (by kernel_rfl) (by kernel_rfl) (by kernel_rfl) (fun _ _ _ h=>h) (Or.inl ⟨by rfl,?hybu112⟩) hHeld ?restbu112
     case hybu112=>(intro w' hSw;(try dsimp only at hSw);go_simp;(try with_reducible rfl))
     refine Qb ?_;refine Jm (by kernel_rfl) rfl (fun K hK=> ?_);go_simp;refine hK.out _ _ ?_;clear hK K;refine Qb ?_;refine Jl (by kernel_rfl) ?_ _;have HM9:=Qq (HMI.out.set (by rw [Ts,hol]) i z);rw [HSZ.out]at HM9;have HX9:=Qq (HXI.out.setCell (p:=⟨g0,i,none⟩) hgb (.int .u64 ((z:Nat):Int)));have HW9:=Qq (HXW.out.setCell (p:=⟨g0,i,none⟩) (Qx HX1.out.size hgb) (.int .u64 ((z:Nat):Int)));clear c0 f0 d0 cl dl HXI HXW HMI;go_wp2_with fail;go_roundw
     case rel=>exact⟨i+1,by go_num,by omega,Qq ⟨HX9.out.drew,HW9.out.drew,HM9.out.ext (Qz.drew)⟩⟩
     case measure=>simp [intOf];omega
    obtain rfl:n=i:=by omega
    go_wp2_with fail;go_roundw
    case rel=>exact⟨k+1,by go_num,by omega,Qq ⟨HXI.out,by rw [<-HNX.out];exact HMI.out,fun h=>by rw [HAK.out]at h;cases h⟩⟩
    case measure=>simp [intOf];omega
  obtain rfl:rl.length=k:=by omega
  go_wp2_with fail;go_ret;exact⟨_,rfl,HX1.out.trans HX.out,by rw [<-HGA.out];exact Tl HM.out HX1.out.size⟩
theorem Qwg(W:World)(x y:Nat)(hx:Qw x)(hy:Qw y):Calls Tryz.prog 211 #[.int .u64 (x:Int),.int .u64 (y:Int)] W fun e w'=>e=.returned (.int .u64 ((if false then x&&&y else x|||y:Nat):Int))/\W=w':=by
 have HB:=Qq (Bk hx hy);clear hx hy;go_enter Tryz.func211,Tryz.ntmps211;go_wp2_with fail;go_ret;exact⟨by rw [<-HB.out] <;> rfl,rfl⟩
theorem Qhv(W:World)(x y:Nat)(hx:Qw x)(hy:Qw y):Calls Tryz.prog 210 #[.int .u64 (x:Int),.int .u64 (y:Int)] W fun e w'=>e=.returned (.int .u64 ((if true then x&&&y else x|||y:Nat):Int))/\W=w':=by
 have HB:=Qq (Ud hx hy);clear hx hy;go_enter Tryz.func210,Tryz.ntmps210;go_wp2_with fail;go_ret;exact⟨by rw [<-HB.out] <;> rfl,rfl⟩
theorem Qvs(v:Value)(md:Md)(gn:Nat)(w:World)(h:MdV w v md)(hok:md.ok)(hck:Zj md=0)(hg1:1<=gn)(hg:gn < 2^md.rel.length):
 Calls Tryz.prog 189 #[v,.int .i64 (gn:Int)] w fun e w'=>∃u,e=.returned u/\Ext w w'/\Jv w' u ((List.range md.n.toNat).map (Vw md.rel gn false md.n.toNat)):=by
 have H:=Qq h;have HOK:=Qq hok;have HC:=Qq hck;have eg:∀args w,(callFunc 211 args).run Tryz.prog w=.ok (.enter 211 args) w:=fun _ _=>rfl
 have HG:=Qq (fun(w:World) (h:MdV w v md)=>Qz3 false 211 eg v md gn w h hok hck hg1 hg Qwg);obtain⟨vv,vr,rfl,hv,hr⟩:=h;clear hok hck eg hv hr;go_enter Tryz.func189,Tryz.ntmps189;go_wp2_with(go_at_call 209;refine(HG.out _ (H.out.ext ((Ext.refl w).alloc _))).mono ?_;rintro e w1 ⟨u,rfl,hx,hm⟩;have HX:=Qq (((Ext.refl w).alloc _).trans hx);have HM:=Qq hm;clear hx hm);go_ret;exact⟨_,rfl,HX.out,HM.out.u64s⟩
theorem Qmp(v:Value)(md:Md)(gn:Nat)(w:World)(h:MdV w v md)(hok:md.ok)(hck:Zj md=0)(hg1:1<=gn)(hg:gn < 2^md.rel.length):
 Calls Tryz.prog 188 #[v,.int .i64 (gn:Int)] w fun e w'=>∃u,e=.returned u/\Ext w w'/\Jv w' u ((List.range md.n.toNat).map (Vw md.rel gn true md.n.toNat)):=by
 have H:=Qq h;have HOK:=Qq hok;have HC:=Qq hck;have eg:∀args w,(callFunc 210 args).run Tryz.prog w=.ok (.enter 210 args) w:=fun _ _=>rfl
 have HG:=Qq (fun(w:World) (h:MdV w v md)=>Qz3 true 210 eg v md gn w h hok hck hg1 hg Qhv);obtain⟨vv,vr,rfl,hv,hr⟩:=h;clear hok hck eg hv hr;go_enter Tryz.func188,Tryz.ntmps188;go_wp2_with(go_at_call 209;refine(HG.out _ (H.out.ext ((Ext.refl w).alloc _))).mono ?_;rintro e w1 ⟨u,rfl,hx,hm⟩;have HX:=Qq (((Ext.refl w).alloc _).trans hx);have HM:=Qq hm;clear hx hm);go_ret;exact⟨_,rfl,HX.out,HM.out.u64s⟩
end Go.Proofs.YtkmclcmnoicagaaGreatDoor
