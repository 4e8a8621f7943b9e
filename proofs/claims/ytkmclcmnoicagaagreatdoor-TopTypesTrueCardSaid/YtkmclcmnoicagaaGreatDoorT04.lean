/- formula.nodeError returns the error of a node at a place, for every node and place. -/
import Derived.Test.YtkmclcmnoicagaaGreatDoorT02
import Derived.Test.YtkmclcmnoicagaaGreatDoorT03
namespace Go.Proofs.YtkmclcmnoicagaaGreatDoor
set_option maxRecDepth 100000
set_option maxHeartbeats 128000000
open Go.RowKit
theorem Nn(n:Nd)(at_:Int)(w:World):
 Calls Tryz.prog 102 #[n.val,.int .i64 at_] w fun e w'=>e=.returned (.int .i64 (Qo n at_))/\Ext w w':=by
 have key:∀r:Int,Qo n at_=r->(Calls Tryz.prog 102 #[n.val,.int .i64 at_] w fun e w'=>e=.returned (.int .i64 r)/\Ext w w')->
  Calls Tryz.prog 102 #[n.val,.int .i64 at_] w fun e w'=>e=.returned (.int .i64 (Qo n at_))/\Ext w w':=by
  intro r h hc;rw [h];exact hc
 cases ho:Jk n.op
 ·exact key 10 (by simp [Qo,ho]) (Qyl n at_ w ho)
 cases hx:Qs (Qh n.op) n.x at_
 ·exact key 3 (by simp [Qo,ho,hx]) (Qbc n at_ w ho hx)
 cases hy:Qs (Qc n.op) n.y at_
 ·exact key 3 (by simp [Qo,ho,hx,hy]) (Qbh n at_ w ho hx hy)
 have ob:∀v a b,Qr false v a b=false:=fun _ _ _=>rfl
 rcases Qqj n.op with⟨hf,ha,hg,he⟩|⟨hf,ha,hg,he⟩|⟨hf,ha,hg,he⟩|⟨hf,ha,hg,he⟩|⟨hf,ha,hg,he⟩
 ·by_cases hi:n.i=0
  ·by_cases hee:n.e=0
   ·by_cases hgg:n.g=0
    ·exact key 0 (by simp [Qo,ho,hx,hy,Zv,Jg,hf,ha,hg,he,hi,hee,hgg,ob]) (Qqw n at_ w ho hf ha hg he hx hy hi hee hgg)
    exact key 3 (by have hb:(n.g !=0)=true:=by { simpa using hgg };simp only [Qo,ho,hx,hy,Zv,hf,ha,hg,he,hb];simp) (Qjk n at_ w ho hf ha hg he hx hy hi hee (by simpa using hgg))
   exact key 3 (by have hb:(n.e !=0)=true:=by { simpa using hee };simp only [Qo,ho,hx,hy,Zv,hf,ha,hg,he,hb];simp) (Qjv n at_ w ho hf ha hg he hx hy hi (by simpa using hee))
  exact key 3 (by have hb:(n.i !=0)=true:=by { simpa using hi };simp only [Qo,ho,hx,hy,Zv,hf,ha,hg,he,hb];simp) (Qjx n at_ w ho hf ha hg he hx hy (by simpa using hi))
 ·by_cases hee:n.e=0
  ·by_cases hgg:n.g=0
   ·cases hr:Qr true n.i 0 7
    ·exact key 0 (by simp [Qo,ho,hx,hy,Zv,Jg,hf,ha,hg,he,hee,hgg,ob,hr]) (Qqc n at_ w ho hf ha hg he hx hy hee hgg hr)
    exact key 2 (by simp [Qo,ho,hx,hy,Zv,Jg,hf,ha,hg,he,hee,hgg,hr]) (Qjy n at_ w ho hf ha hg he hx hy hee hgg hr)
   exact key 3 (by have hb:(n.g !=0)=true:=by { simpa using hgg };simp only [Qo,ho,hx,hy,Zv,hf,ha,hg,he,hb];simp) (Qjj n at_ w ho hf ha hg he hx hy hee (by simpa using hgg))
  exact key 3 (by have hb:(n.e !=0)=true:=by { simpa using hee };simp only [Qo,ho,hx,hy,Zv,hf,ha,hg,he,hb];simp) (Qjz n at_ w ho hf ha hg he hx hy (by simpa using hee))
 ·by_cases hee:n.e=0
  ·by_cases hgg:n.g=0
   ·cases hr:Qr true n.i 0 3
    ·exact key 0 (by simp [Qo,ho,hx,hy,Zv,Jg,hf,ha,hg,he,hee,hgg,ob,hr]) (Oy n at_ w ho hf ha hg he hx hy hee hgg hr)
    exact key 2 (by simp [Qo,ho,hx,hy,Zv,Jg,hf,ha,hg,he,hee,hgg,hr]) (Qqt n at_ w ho hf ha hg he hx hy hee hgg hr)
   exact key 3 (by have hb:(n.g !=0)=true:=by { simpa using hgg };simp only [Qo,ho,hx,hy,Zv,hf,ha,hg,he,hb];simp) (Qqs n at_ w ho hf ha hg he hx hy hee (by simpa using hgg))
  exact key 3 (by have hb:(n.e !=0)=true:=by { simpa using hee };simp only [Qo,ho,hx,hy,Zv,hf,ha,hg,he,hb];simp) (Qqr n at_ w ho hf ha hg he hx hy (by simpa using hee))
 ·by_cases hi:n.i=0
  ·by_cases hee:n.e=0
   ·cases hr:Qr true n.g 1 15
    ·exact key 0 (by simp [Qo,ho,hx,hy,Zv,Jg,hf,ha,hg,he,hi,hee,ob,hr]) (Ok n at_ w ho hf ha hg he hx hy hi hee hr)
    exact key 2 (by simp [Qo,ho,hx,hy,Zv,Jg,hf,ha,hg,he,hi,hee,hr]) (Qqe n at_ w ho hf ha hg he hx hy hi hee hr)
   exact key 3 (by have hb:(n.e !=0)=true:=by { simpa using hee };simp only [Qo,ho,hx,hy,Zv,hf,ha,hg,he,hb];simp) (Qqh n at_ w ho hf ha hg he hx hy hi (by simpa using hee))
  exact key 3 (by have hb:(n.i !=0)=true:=by { simpa using hi };simp only [Qo,ho,hx,hy,Zv,hf,ha,hg,he,hb];simp) (Qqa n at_ w ho hf ha hg he hx hy (by simpa using hi))
 by_cases hgg:n.g=0
 ·cases hr:Qr true n.i 0 7
  ·cases hs:Qr true n.e 0 7
   ·exact key 0 (by simp [Qo,ho,hx,hy,Zv,Jg,hf,ha,hg,he,hgg,ob,hr,hs]) (Ov n at_ w ho hf ha hg he hx hy hgg hr hs)
   exact key 2 (by simp [Qo,ho,hx,hy,Zv,Jg,hf,ha,hg,he,hgg,hr,hs]) (Qql n at_ w ho hf ha hg he hx hy hgg hr hs)
  exact key 2 (by simp [Qo,ho,hx,hy,Zv,Jg,hf,ha,hg,he,hgg,hr]) (Qqp n at_ w ho hf ha hg he hx hy hgg hr)
 exact key 3 (by have hb:(n.g !=0)=true:=by { simpa using hgg };simp only [Qo,ho,hx,hy,Zv,hf,ha,hg,he,hb];simp) (Qqm n at_ w ho hf ha hg he hx hy (by simpa using hgg))
theorem Qp(a:Addr)(n:Nat):(a.add n).block=a.block:=by unfold Addr.add;split <;> rfl
theorem Qnt(a:Addr)(i j:Nat):(a.add i).add j=a.add (i+j):=by
 unfold Addr.add;by_cases hi:i=0 <;> by_cases hj:j=0 <;> simp [hi,hj,Nat.add_assoc]
def Qxw(w:World)(a:Addr)(n:Nd):Prop :=
 w.cell? a=some (.int .i64 n.op)/\w.cell? ⟨a.block,a.off+1,none⟩=some (.int .i64 n.i)/\w.cell? ⟨a.block,a.off+2,none⟩=some (.int .i64 n.e)/\w.cell? ⟨a.block,a.off+3,none⟩=some (.int .i64 n.g)/\
  w.cell? ⟨a.block,a.off+4,none⟩=some (.int .i64 n.x)/\w.cell? ⟨a.block,a.off+5,none⟩=some (.int .i64 n.y)
def Tj(w:World)(A:Option Addr)(c:Nat)(l:List Nd):Prop :=
 l.length<=c/\c<=maxLen/\(l≠ []->∃ad,A=some ad/\ad.block < w.heap.size/\∀k n,l[k]?=some n->Qxw w (ad.add (k*6)) n)
def Nds(w:World)(v:Value)(l:List Nd):Prop:=∃A c,v=.slice A l.length c/\Tj w A c l
section
variable {w w':World} {a:Addr} {n:Nd} {l:List Nd} {A:Option Addr} {c:Nat} {v:Value}
theorem Qxw.keep(h:Qxw w a n)(hk:∀p:Addr,p.block=a.block->w'.cell? p=w.cell? p):Qxw w' a n:=by
 obtain⟨h0,h1,h2,h3,h4,h5⟩:=h;have hk':∀o s,w'.cell? ⟨a.block,o,s⟩=w.cell? ⟨a.block,o,s⟩:=fun o s=>hk ⟨a.block,o,s⟩ rfl
 exact⟨(hk _ rfl).trans h0,(hk' _ _).trans h1,(hk' _ _).trans h2,(hk' _ _).trans h3,(hk' _ _).trans h4,(hk' _ _).trans h5⟩
theorem Tj.ext(h:Tj w A c l)(hb:Ext w w'):Tj w' A c l :=
 ⟨h.1,h.2.1,fun hn=>by
  obtain⟨ad,e,hlt,hc⟩:=h.2.2 hn;exact⟨ad,e,Qy hlt hb.size,fun k n hk=>(hc k n hk).keep fun p hp=>hb.cell (by rw [hp,Qp];exact hlt)⟩⟩
theorem Nds.ext(h:Nds w v l)(hb:Ext w w'):Nds w' v l:=by
 obtain⟨A,c,e,h⟩:=h;exact⟨A,c,e,h.ext hb⟩
end
theorem Qj {a:Addr} {k n:Nat}(h:a.block < n):(a.add k).block < n:=by rw [Qp];exact h
theorem Kx {k:IntKind} {a b:Int}(h:a=b):Ending.returned (.int k a)=.returned (.int k b):=by rw [h]
theorem Vn(v:Value)(l:List Nd)(w:World)(h:Nds w v l):
 Calls Tryz.prog 41 #[v] w fun e w'=>e=.returned (.int .i64 (check l))/\Ext w w':=by
 obtain⟨A,c,rfl,hcap,hmax,hread⟩:=h;unfold maxLen at hmax;by_cases h0:l.length=0
 ·have hcheck:check l=3:=by simp [check,h0]
  rw [h0,hcheck];clear hcheck hread;go_enter Tryz.func41,Tryz.ntmps41;go_wp2_with fail;go_ret;exact⟨rfl,Qz⟩
 have e0:((l.length:Int)==0)=false:=by rw [beq_eq_false_iff_ne];omega
 by_cases h1:200 < l.length
 ·have hcheck:check l=8:=by simp [check,h0,h1]
  rw [hcheck];clear hcheck hread;go_enter Tryz.func41,Tryz.ntmps41;go_wp2_with fail;go_ret;exact⟨rfl,Qz⟩
 have hne:l≠ []:=fun e=>h0 (by simp [e])
 obtain⟨ad,rfl,hlt,hcells⟩:=hread hne;have HC:=Qq hcells;clear hcells;have HK:=Qq (show check l=Jj l 0 by simp [check,h0,h1]);have hl:l.length<=200:=by omega
 clear h0 h1 hread;go_enter Tryz.func41,Tryz.ntmps41;go_wp2_with fail;go_loopw [14] (fun i wr=>∃k:Nat,k<=l.length/\i=.int .i64 k/\Hid (Jj l 0=Jj (l.drop k) k)/\Ext w wr) (fun i _=>l.length - (intOf i).toNat)
 case atStart=>exact⟨0,Nat.zero_le _,rfl,Qq rfl,Qz⟩
 case round =>
  obtain⟨k,hk,rfl,hrest,hext⟩:=hrel;by_cases hlt2:k < l.length
  ·obtain⟨n,hn⟩:∃n,l[k]?=some n:=⟨_,Qv hlt2⟩;have hst:=Pj l k n hn;obtain⟨c0,c1,c2,c3,c4,c5⟩:=(HC.out k n hn).keep fun p hp=>hext.cell (p:=p) (by rw [hp,Qp];exact hlt)
   by_cases he:Qo n k=0
   ·have hst2:Hid (Jj l 0=Jj (l.drop (k+1)) ((k+1:Nat):Int)):=Qq (by rw [hrest.out,hst,he];rfl);have hh:=Qq he;clear hst he hn hrest;go_wp2_with(go_at_call 102;refine(Nn n _ _).mono ?_;rintro e w1 ⟨rfl,hb⟩;rw [hh.out]);go_roundw
    case rel=>exact⟨k+1,by omega,by go_num,hst2,(hext.alloc _).trans hb⟩
    case measure=>simp [intOf];omega
   have hh:(Qo n k !=0)=true:=by simpa using he
   have hst2:Hid (Jj l 0=Qo n k):=Qq (by rw [hrest.out,hst,hh];rfl);clear hst he hn hrest;go_wp2_with(go_at_call 102;refine(Nn n _ _).mono ?_;rintro e w1 ⟨rfl,hb⟩);go_ret;exact⟨Kx (by rw [HK.out,hst2.out]),(hext.alloc _).trans hb⟩
  obtain rfl:l.length=k:=by omega
  go_wp2_with fail;go_ret;refine⟨Kx ?_,hext⟩;rw [HK.out,hrest.out];simp [Jj]
end Go.Proofs.YtkmclcmnoicagaaGreatDoor
