/- natural.Theorem: the walk. -/
import Derived.Test.YtmidgcldljfkcaaGreatDoorM01
import Derived.Test.YtmidgcldljfkcaaGreatDoorM13
import Derived.Test.YtmidgcldljfkcaaGreatDoorM28
namespace Go.Proofs.YtmidgcldljfkcaaGreatDoor
set_option maxRecDepth 100000
set_option maxHeartbeats 128000000
open Go.RowKit
def Em(ls:List Ln):Ln:=ls.getLastD Ln.zero
def Kl(lg:Int)(ls:List Ln):List Nd×Int :=
 bif (Za lg ls).2 !=0 then([],(Za lg ls).2)else bif (Em ls).depth !=0 then([],16)else(Qf (Em ls).f,0)
theorem Qvs {lg:Int} {ls:List Ln}(h:(Za lg ls).2=0):0 < ls.length:=by
 unfold Za at h;cases e1:(decide (lg < 0)||decide (6 < lg))
 ·rw [e1]at h;cases e2:decide (400 < ls.length)
  ·rw [e2]at h;cases e3:decide (ls.length=0)
   ·have:=of_decide_eq_false e3;omega
   rw [e3]at h;cases h
  rw [e2]at h;cases h
 rw [e1]at h;cases h
theorem Qbe {ls:List Ln}(h:0 < ls.length):ls[ls.length - 1]?=some (Em ls):=by
 unfold Em;rw [<-List.getLast?_eq_getElem?];cases ls with
 |nil=>simp at h
 |cons a t=>simp [List.getLast?_cons]
theorem Qjf {w:World} {lg:Int} {vl:Value} {ls:List Ln}(hl:Lns w vl ls)(hT:Tab w):
 Calls Tryz.prog 8 #[.agg #[.int .i64 lg,vl]] w fun e w'=>∃u,e=.returned (.tuple #[u,.int .i64 (Kl lg ls).2])/\Ext w w'/\Fml w' u (Kl lg ls).1:=by
 have HL:=Qq hl;have HT:=Qq hT;obtain⟨Al,cl,rfl,hat⟩:=hl;have hcap:=hat.1;have hcm:=hat.2.1;unfold maxLen at hcm;have HAT:=Qq hat.2.2;clear hat hT;go_enter Tryz.func8,Tryz.ntmps8;go_wp2_with fail;refine(Qva (lg:=lg) (HL.out.ext ((Ext.refl w).alloc (.cells #[.int .i64 lg,.slice Al ls.length cl] 24))) (HT.out.ext ((Ext.refl w).alloc (.cells #[.int .i64 lg,.slice Al ls.length cl] 24)))).mono ?_;rintro e w1 ⟨rfl,hx⟩;have HX:=Qq (((Ext.refl w).alloc (.cells #[.int .i64 lg,.slice Al ls.length cl] 24)).trans hx);obtain⟨z0,z1,_,zlt⟩:=Qae ((hx.block (by simp)).trans (heap_alloc_new w (.cells #[.int .i64 lg,.slice Al ls.length cl] 24)))
 clear hx;cases hc:((Za lg ls).2 !=0)
 case true =>
  have HN:=Qq (show Kl lg ls=([],(Za lg ls).2) by unfold Kl;rw [hc];rfl);go_wp2_with fail;go_ret2;exact⟨.slice none 0 0,by rw [HN.out] <;> rfl,HX.out,by rw [HN.out];exact⟨⟨none,0,rfl,Nat.le_refl _,by unfold maxLen;omega,fun h=>absurd rfl h⟩,by simp⟩⟩
 case false =>
  have hc0:(Za lg ls).2=0:=by simpa using hc
  have hp:=Qvs hc0;have HC:=Qq hc;obtain⟨ad,rfl,hblk,hcells⟩:=HAT.out (by intro e;rw [e]at hp;simp at hp);have hn:=Qbe hp;obtain⟨uf,ur,q0,q1,q2,q3,q4,hff,hii⟩:=(hcells _ _ hn).ext HX.out (Qj hblk);have HFF:=Qq hff;obtain⟨Af,cf,rfl,_⟩:=Qg hff;obtain⟨Ar,cr,rfl,_⟩:=hii;have hi1:((ls.length:Int) - 1) < (ls.length:Int):=by omega
  have hi0:(0:Int)<=(ls.length:Int) - 1:=by omega
  have e1:((ls.length:Int) - 1).toNat=ls.length - 1:=by omega
  have hblk1:ad.block < w1.heap.size:=Qy hblk HX.out.size;obtain⟨n,hnn⟩:∃n,Em ls=n:=⟨_,rfl⟩;rw [hnn]at q0 q1 q2 q3 q4 HFF;have HNN:=Qq hnn;clear hcells hff hn hnn hp hc0;by_cases hd:n.depth=0
  ·have hdb:(n.depth !=0)=false:=by simp [hd]
   have HN:=Qq (show Kl lg ls=(Qf n.f,0) by unfold Kl;rw [HC.out,HNN.out,hdb];rfl);clear hd;go_wp2_with fail;refine(Vy _ n.f _ (HFF.out.ext (Qz.alloc _))).mono ?_;rintro e w2 ⟨u,rfl,hm⟩;have HM:=Qq hm.fml;have HX2:=Qq (Ext.trans (show Ext w _ from HX.out.alloc _) hm.2.2);clear hm;go_wp2_with fail;go_ret2;exact⟨u,by rw [HN.out] <;> rfl,HX2.out,by rw [HN.out];exact HM.out⟩
  have hdb:(n.depth !=0)=true:=by simpa using hd
  have HN:=Qq (show Kl lg ls=([],16) by unfold Kl;rw [HC.out,HNN.out,hdb];rfl);clear hd;go_wp2_with fail;go_ret2;exact⟨.slice none 0 0,by rw [HN.out] <;> rfl,HX.out.alloc _,by rw [HN.out];exact⟨⟨none,0,rfl,Nat.le_refl _,by unfold maxLen;omega,fun h=>absurd rfl h⟩,by simp⟩⟩
def Qwh(lg:Int)(ls:List Ln)(f:List Nd):Bool:=(Kl lg ls).2==0&&Yb f (Kl lg ls).1
end Go.Proofs.YtmidgcldljfkcaaGreatDoor
