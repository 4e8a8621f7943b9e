/- slices.IndexFunc and ContainsFunc, with a test of any function (I). -/
import Derived.Test.YtmidgcldljfkcaaGreatDoorM01
import Derived.Test.YtmidgcldljfkcaaGreatDoorM32
import Derived.Test.YtmidgcldljfkcaaGreatDoorM13
import Derived.Test.YtmidgcldljfkcaaGreatDoorM04
import Derived.Test.YtmidgcldljfkcaaGreatDoorM16
import Derived.Test.YtmidgcldljfkcaaGreatDoorM22
import Derived.Test.YtmidgcldljfkcaaGreatDoorM33
namespace Go.Proofs.YtmidgcldljfkcaaGreatDoor
set_option maxRecDepth 100000
set_option maxHeartbeats 128000000
open Go.RowKit
theorem indexFI_any(g:Nat)(lb:Array Value)(eg:∀args w,(callFunc g args).run Tryz.prog w=.ok (.enter g args) w)(p:Int->Bool)(v:Value)(l:List (Int))(w:World)(h:Ints w v l)
 (hp:∀(W:World) (s:Int),s∈l->Ext w W->Calls Tryz.prog g (#[.int .i64 s]++lb) W fun e w'=>e=.returned (.bool (p s))/\Ext W w'):
 Calls Tryz.prog 75 #[v,.func (.func g) #[] lb] w fun e w'=>e=.returned (.int .i64 (findI p l))/\Ext w w':=by
 obtain⟨A,c,rfl,hcap,hmax,hr⟩:=h;have HR:=Qq hr;clear hr;unfold maxLen at hmax;have HP:=Qq hp;clear hp;go_enter Tryz.func75,Tryz.ntmps75;go_wp2_with fail;go_loopw [5,8] (fun _ i wr=>∃k:Nat,k<=l.length/\i=.int .i64 (k:Int)/\Hid (∀t∈l.take k,p t=false)/\Hid (Ext w wr)) (fun _ i _=>l.length - (intOf i).toNat)
 case atStart=>exact⟨0,Nat.zero_le _,rfl,Qq (by simp),Qq Qz⟩
 case round =>
  obtain⟨k,hk,rfl,HNI,HX⟩:=hrel;by_cases hlt2:k < l.length
  ·obtain⟨s,hs⟩:∃s,l[k]?=some s:=⟨_,Qv hlt2⟩;obtain⟨ad,rfl,hb1,hcz⟩:=HR.out (by intro e;rw [e]at hlt2;simp at hlt2);have a0:wr.cell? (ad.add k)=some (.int .i64 s):=(HX.out.cell (p:=ad.add k) (Qj hb1)).trans (hcz k s hs);clear hcz;have HA:=Qq hs;have hk1:(k:Int) < (l.length:Int):=by omega
   clear hs;cases hps:p s
   ·have HT:Hid (∀t∈l.take (k+1),p t=false):=Qq (by
     rw [take_snocI HA.out];intro t ht;rcases List.mem_append.1 ht with ht|ht
     ·exact HNI.out t ht
     rw [List.mem_singleton.1 ht];exact hps)
    go_wp2_with(refine(HP.out _ s (memI HA.out) HX.out).mono ?_;rintro e w1 ⟨rfl,hx⟩;rw [hps]);go_roundw
    case rel=>exact⟨k+1,by omega,by go_num,HT,Qq (HX.out.trans hx)⟩
    case measure=>simp [intOf];omega
   have HE:=Qq (findI_hit (p:=p) HA.out hps HNI.out);go_wp2_with(refine(HP.out _ s (memI HA.out) HX.out).mono ?_;rintro e w1 ⟨rfl,hx⟩;rw [hps]);go_ret;exact⟨by rw [HE.out] <;> rfl,HX.out.trans hx⟩
  obtain rfl:l.length=k:=by omega
  have HE:=Qq (findI_miss (p:=p) (l:=l) (fun t ht=>HNI.out t (by rw [List.take_of_length_le (Nat.le_refl _)];exact ht)));go_wp2_with fail;go_ret;exact⟨by rw [HE.out] <;> rfl,HX.out⟩
theorem containsFI_any(g:Nat)(lb:Array Value)(eg:∀args w,(callFunc g args).run Tryz.prog w=.ok (.enter g args) w)(p:Int->Bool)(v:Value)(l:List (Int))(w:World)(h:Ints w v l)
 (hp:∀(W:World) (s:Int),s∈l->Ext w W->Calls Tryz.prog g (#[.int .i64 s]++lb) W fun e w'=>e=.returned (.bool (p s))/\Ext W w'):
 Calls Tryz.prog 48 #[v,.func (.func g) #[] lb] w fun e w'=>e=.returned (.bool (l.any p))/\Ext w w':=by
 have HI:=Qq (indexFI_any g lb eg p v l w h hp);have HE:=Qq (findI_any p l);clear hp h;obtain⟨z,hz⟩:∃z,z=findI p l:=⟨_,rfl⟩;rw [<-hz]at HI HE;clear hz;go_enter Tryz.func48,Tryz.ntmps48;go_wp2_with(refine HI.out.mono ?_;rintro e w1 ⟨rfl,hx⟩);go_ret;exact⟨by rw [<-HE.out] <;> rfl,hx⟩
theorem ints_lit(w:World)(l:List Int)(t:TypeId)(hl:l.length<=10):Ints (w.alloc (.cells (l.map (Value.int .i64)).toArray t)) (.slice (some ⟨w.heap.size,0,none⟩) l.length l.length) l:=by
 refine⟨_,_,rfl,Nat.le_refl _,by unfold maxLen;omega,fun _=>⟨_,rfl,by simp,fun k z hk=> ?_⟩⟩;have h1:=heap_alloc_new w (.cells (l.map (Value.int .i64)).toArray t);rw [addr_zero];have h2:(w.alloc (.cells (l.map (Value.int .i64)).toArray t)).heap[w.heap.size]?=some (Obj.cells (l.map (Value.int .i64)).toArray t (0,0)):=h1;simp only [World.cell?,h2];rw [List.getElem?_toArray,List.getElem?_map,hk];rfl
theorem pProps_any(lg:Int)(w:World):
 Calls Tryz.prog 23 #[.int .i64 lg] w fun e w'=>∃v,e=.returned (.tuple #[v,.int .i64 (p15 lg)])/\Ext w w'/\Hid (p15 lg=0->Ints w' v (propsL lg)):=by
 by_cases hc:0<=lg/\lg<=6
 ·have hcl:lg=0\/lg=1\/lg=2\/lg=3\/lg=4\/lg=5\/lg=6:=by omega
  clear hc;rcases hcl with rfl|rfl|rfl|rfl|rfl|rfl|rfl
  all_goals
   go_enter Tryz.func23,Tryz.ntmps23;go_wp2_with fail;go_ret2
   first
   |exact⟨_,rfl,Qz,Qq fun _=>Ints.none_ _⟩
   |exact⟨_,rfl,Qz.alloc _,Qq fun _=>ints_lit w [1] _ (by decide)⟩
   |exact⟨_,rfl,Qz.alloc _,Qq fun _=>ints_lit w [2] _ (by decide)⟩
   |exact⟨_,rfl,Qz.alloc _,Qq fun _=>ints_lit w [4] _ (by decide)⟩
   |exact⟨_,rfl,Qz.alloc _,Qq fun _=>ints_lit w [2,4] _ (by decide)⟩
   |exact⟨_,rfl,Qz.alloc _,Qq fun _=>ints_lit w [1,4,5] _ (by decide)⟩
   |exact⟨_,rfl,Qz.alloc _,Qq fun _=>ints_lit w [2,4,5] _ (by decide)⟩
 have h0:(lg==0)=false:=by rw [beq_eq_false_iff_ne];omega
 have h1:(lg==1)=false:=by rw [beq_eq_false_iff_ne];omega
 have h2:(lg==2)=false:=by rw [beq_eq_false_iff_ne];omega
 have h3:(lg==3)=false:=by rw [beq_eq_false_iff_ne];omega
 have h4:(lg==4)=false:=by rw [beq_eq_false_iff_ne];omega
 have h5:(lg==5)=false:=by rw [beq_eq_false_iff_ne];omega
 have h6:(lg==6)=false:=by rw [beq_eq_false_iff_ne];omega
 have HC:=Qq (show p15 lg=1 from if_neg hc);clear hc;go_enter Tryz.func23,Tryz.ntmps23;go_wp2_with fail;go_ret2;exact⟨_,by rw [HC.out] <;> rfl,Qz,Qq fun e=>by rw [HC.out]at e;cases e⟩
theorem indexU_any(g:Nat)(lb:Array Value)(eg:∀args w,(callFunc g args).run Tryz.prog w=.ok (.enter g args) w)(p:Nat->Bool)(v:Value)(l:List (Nat))(w:World)(h:U64s w v l)
 (hp:∀(W:World) (s:Nat),s∈l->Ext w W->Calls Tryz.prog g (#[.int .u64 (s:Int)]++lb) W fun e w'=>e=.returned (.bool (p s))/\Ext W w'):
 Calls Tryz.prog 101 #[v,.func (.func g) #[] lb] w fun e w'=>e=.returned (.int .i64 (findI p l))/\Ext w w':=by
 obtain⟨A,c,rfl,hcap,hmax,HR⟩:=u64_at h;unfold maxLen at hmax;have HP:=Qq hp;clear h hp;go_enter Tryz.func101,Tryz.ntmps101;go_wp2_with fail;go_loopw [5,8] (fun _ i wr=>∃k:Nat,k<=l.length/\i=.int .i64 (k:Int)/\Hid (∀t∈l.take k,p t=false)/\Hid (Ext w wr)) (fun _ i _=>l.length - (intOf i).toNat)
 case atStart=>exact⟨0,Nat.zero_le _,rfl,Qq (by simp),Qq Qz⟩
 case round =>
  obtain⟨k,hk,rfl,HNI,HX⟩:=hrel;by_cases hlt2:k < l.length
  ·obtain⟨s,hs⟩:∃s,l[k]?=some s:=⟨_,Qv hlt2⟩;obtain⟨ad,rfl,hb1,hc1⟩:=HR.out k hlt2;rw [Qk,hs,Option.getD_some]at hc1;have a0:wr.cell? (ad.add k)=some (.int .u64 (s:Int)):=(HX.out.cell (p:=ad.add k) (Qj hb1)).trans hc1;clear hc1;have HA:=Qq hs;have hk1:(k:Int) < (l.length:Int):=by omega
   clear hs;cases hps:p s
   ·have HT:Hid (∀t∈l.take (k+1),p t=false):=Qq (by
     rw [take_snocI HA.out];intro t ht;rcases List.mem_append.1 ht with ht|ht
     ·exact HNI.out t ht
     rw [List.mem_singleton.1 ht];exact hps)
    go_wp2_with(refine(HP.out _ s (memI HA.out) HX.out).mono ?_;rintro e w1 ⟨rfl,hx⟩;rw [hps]);go_roundw
    case rel=>exact⟨k+1,by omega,by go_num,HT,Qq (HX.out.trans hx)⟩
    case measure=>simp [intOf];omega
   have HE:=Qq (findI_hit (p:=p) HA.out hps HNI.out);go_wp2_with(refine(HP.out _ s (memI HA.out) HX.out).mono ?_;rintro e w1 ⟨rfl,hx⟩;rw [hps]);go_ret;exact⟨by rw [HE.out] <;> rfl,HX.out.trans hx⟩
  obtain rfl:l.length=k:=by omega
  have HE:=Qq (findI_miss (p:=p) (l:=l) (fun t ht=>HNI.out t (by rw [List.take_of_length_le (Nat.le_refl _)];exact ht)));go_wp2_with fail;go_ret;exact⟨by rw [HE.out] <;> rfl,HX.out⟩
theorem containsU_any(g:Nat)(lb:Array Value)(eg:∀args w,(callFunc g args).run Tryz.prog w=.ok (.enter g args) w)(p:Nat->Bool)(v:Value)(l:List (Nat))(w:World)(h:U64s w v l)
 (hp:∀(W:World) (s:Nat),s∈l->Ext w W->Calls Tryz.prog g (#[.int .u64 (s:Int)]++lb) W fun e w'=>e=.returned (.bool (p s))/\Ext W w'):
 Calls Tryz.prog 71 #[v,.func (.func g) #[] lb] w fun e w'=>e=.returned (.bool (l.any p))/\Ext w w':=by
 have HI:=Qq (indexU_any g lb eg p v l w h hp);have HE:=Qq (findI_any p l);clear hp h;obtain⟨z,hz⟩:∃z,z=findI p l:=⟨_,rfl⟩;rw [<-hz]at HI HE;clear hz;go_enter Tryz.func71,Tryz.ntmps71;go_wp2_with(refine HI.out.mono ?_;rintro e w1 ⟨rfl,hx⟩);go_ret;exact⟨by rw [<-HE.out] <;> rfl,hx⟩
theorem indexR_any(g:Nat)(lb:Array Value)(eg:∀args w,(callFunc g args).run Tryz.prog w=.ok (.enter g args) w)(p:List Nat->Bool)(v:Value)(l:List (List Nat))(w:World)(h:U64ss w v l)
 (hp:∀(W:World) (u:Value) (s:List Nat),s∈l->Ext w W->U64s W u s->Calls Tryz.prog g (#[u]++lb) W fun e w'=>e=.returned (.bool (p s))/\Ext W w'):
 Calls Tryz.prog 46 #[v,.func (.func g) #[] lb] w fun e w'=>e=.returned (.int .i64 (findI p l))/\Ext w w':=by
 obtain⟨A,c,rfl,hcap,hmax,HR⟩:=u64ss_at h;unfold maxLen at hmax;have HP:=Qq hp;clear h hp;go_enter Tryz.func46,Tryz.ntmps46;go_wp2_with fail;go_loopw [5,8] (fun _ i wr=>∃k:Nat,k<=l.length/\i=.int .i64 (k:Int)/\Hid (∀t∈l.take k,p t=false)/\Hid (Ext w wr)) (fun _ i _=>l.length - (intOf i).toNat)
 case atStart=>exact⟨0,Nat.zero_le _,rfl,Qq (by simp),Qq Qz⟩
 case round =>
  obtain⟨k,hk,rfl,HNI,HX⟩:=hrel;by_cases hlt2:k < l.length
  ·obtain⟨s,hs⟩:∃s,l[k]?=some s:=⟨_,Qv hlt2⟩;obtain⟨ad,u,rfl,hb1,hu,hc1⟩:=HR.out k hlt2;rw [Qk,hs,Option.getD_some]at hc1;have a0:wr.cell? (ad.add k)=some u:=(HX.out.cell (p:=ad.add k) (Qj hb1)).trans hu;have HF:=Qq (show U64s w u s from hc1);clear hc1 hu;have HA:=Qq hs;have hk1:(k:Int) < (l.length:Int):=by omega
   clear hs;cases hps:p s
   ·have HT:Hid (∀t∈l.take (k+1),p t=false):=Qq (by
     rw [take_snocI HA.out];intro t ht;rcases List.mem_append.1 ht with ht|ht
     ·exact HNI.out t ht
     rw [List.mem_singleton.1 ht];exact hps)
    go_wp2_with(refine(HP.out _ u s (memI HA.out) HX.out (HF.out.ext HX.out)).mono ?_;rintro e w1 ⟨rfl,hx⟩;rw [hps]);go_roundw
    case rel=>exact⟨k+1,by omega,by go_num,HT,Qq (HX.out.trans hx)⟩
    case measure=>simp [intOf];omega
   have HE:=Qq (findI_hit (p:=p) HA.out hps HNI.out);go_wp2_with(refine(HP.out _ u s (memI HA.out) HX.out (HF.out.ext HX.out)).mono ?_;rintro e w1 ⟨rfl,hx⟩;rw [hps]);go_ret;exact⟨by rw [HE.out] <;> rfl,HX.out.trans hx⟩
  obtain rfl:l.length=k:=by omega
  have HE:=Qq (findI_miss (p:=p) (l:=l) (fun t ht=>HNI.out t (by rw [List.take_of_length_le (Nat.le_refl _)];exact ht)));go_wp2_with fail;go_ret;exact⟨by rw [HE.out] <;> rfl,HX.out⟩
theorem containsR_any(g:Nat)(lb:Array Value)(eg:∀args w,(callFunc g args).run Tryz.prog w=.ok (.enter g args) w)(p:List Nat->Bool)(v:Value)(l:List (List Nat))(w:World)(h:U64ss w v l)
 (hp:∀(W:World) (u:Value) (s:List Nat),s∈l->Ext w W->U64s W u s->Calls Tryz.prog g (#[u]++lb) W fun e w'=>e=.returned (.bool (p s))/\Ext W w'):
 Calls Tryz.prog 25 #[v,.func (.func g) #[] lb] w fun e w'=>e=.returned (.bool (l.any p))/\Ext w w':=by
 have HI:=Qq (indexR_any g lb eg p v l w h hp);have HE:=Qq (findI_any p l);clear hp h;obtain⟨z,hz⟩:∃z,z=findI p l:=⟨_,rfl⟩;rw [<-hz]at HI HE;clear hz;go_enter Tryz.func25,Tryz.ntmps25;go_wp2_with(refine HI.out.mono ?_;rintro e w1 ⟨rfl,hx⟩);go_ret;exact⟨by rw [<-HE.out] <;> rfl,hx⟩
theorem pOut1_any(B:Nat)(s n:Nat)(w:World)(hn:n<=64)(hs:word s)(hb:w.cell? ⟨B,0,none⟩=some (.int .i64 (n:Int))):
 Calls Tryz.prog 72 #[.int .u64 (s:Int),.pointer (some ⟨B,0,none⟩)] w fun e w'=>e=.returned (.bool (!decide (s < 2^n)))/\Ext w w':=by
 have HO:=Qq (out_all (n:=n) hs hn);clear hs;go_enter Tryz.func72,Tryz.ntmps72;go_wp2_with(go_at_call 73;refine(pAll13_any n hn _).mono ?_;rintro e w3 ⟨rfl,rfl⟩);go_ret;exact⟨by rw [<-HO.out] <;> rfl,Qz⟩
theorem pOutC_any(B:Nat)(v:Value)(l:List Nat)(n:Nat)(w:World)(h:U64s w v l)(hw:∀s∈l,word s)(hn:n<=64)(hB:B < w.heap.size)(hb:w.cell? ⟨B,0,none⟩=some (.int .i64 (n:Int))):
 Calls Tryz.prog 71 #[v,.func (.func 72) #[] #[.pointer (some ⟨B,0,none⟩)]] w fun e w'=>e=.returned (.bool (beyondN l n))/\Ext w w':=by
 have eg:∀args w,(callFunc 72 args).run Tryz.prog w=.ok (.enter 72 args) w:=fun _ _=>rfl
 refine(containsU_any 72 #[.pointer (some ⟨B,0,none⟩)] eg (fun s=> !decide (s < 2^n)) v l w h ?_).mono ?_
 ·intro W s hs hx;exact pOut1_any B s n W hn (hw s hs) ((hx.cell (p:=⟨B,0,none⟩) hB).trans hb)
 rintro e w1 ⟨rfl,hx⟩;exact⟨rfl,hx⟩
theorem pOut_any(v:Value)(l:List Nat)(n:Nat)(w:World)(h:U64s w v l)(hw:∀s∈l,word s)(hn:n<=64):
 Calls Tryz.prog 44 #[v,.int .i64 (n:Int)] w fun e w'=>e=.returned (.bool (beyondN l n))/\Ext w w':=by
 have HL:=Qq h;have HW:=Qq hw;clear h hw;go_enter Tryz.func44,Tryz.ntmps44;go_wp2_with(go_at_call 71;refine(pOutC_any w.heap.size _ l n _ (HL.out.ext (by repeat(first|exact Qz|assumption|apply Ext.alloc|apply Ext.drew))) HW.out hn (by simp) (by simp)).mono ?_;rintro e w1 ⟨rfl,hx⟩;have HX:=Qq (((Ext.refl w).alloc _).trans hx);clear hx);go_ret;exact⟨rfl,HX.out⟩
theorem pCheck1_any(B:Nat)(v:Value)(l:List Nat)(n:Nat)(w:World)(h:U64s w v l)(hw:∀s∈l,word s)(hn:n<=64)(_hB:B < w.heap.size)(hb:w.cell? ⟨B,0,none⟩=some (.int .i64 (n:Int))):
 Calls Tryz.prog 45 #[v,.pointer (some ⟨B,0,none⟩)] w fun e w'=>e=.returned (.bool (beyondN l n))/\Ext w w':=by
 have HL:=Qq h;have HW:=Qq hw;clear h hw;go_enter Tryz.func45,Tryz.ntmps45;go_wp2_with(go_at_call 44;refine(pOut_any _ l n _ (HL.out.ext (by repeat(first|exact Qz|assumption|apply Ext.alloc|apply Ext.drew))) HW.out hn).mono ?_;rintro e w1 ⟨rfl,hx⟩;have HX:=Qq hx;clear hx);go_ret;exact⟨rfl,HX.out⟩
theorem pCheckC_any(B:Nat)(v:Value)(rl:List (List Nat))(n:Nat)(w:World)(h:U64ss w v rl)(hw:∀r∈rl,∀s∈r,word s)(hn:n<=64)(hB:B < w.heap.size)(hb:w.cell? ⟨B,0,none⟩=some (.int .i64 (n:Int))):
 Calls Tryz.prog 25 #[v,.func (.func 45) #[] #[.pointer (some ⟨B,0,none⟩)]] w fun e w'=>e=.returned (.bool (rl.any fun r=>beyondN r n))/\Ext w w':=by
 have eg:∀args w,(callFunc 45 args).run Tryz.prog w=.ok (.enter 45 args) w:=fun _ _=>rfl
 refine(containsR_any 45 #[.pointer (some ⟨B,0,none⟩)] eg (fun r=>beyondN r n) v rl w h ?_).mono ?_
 ·intro W u s hs hx hu;exact pCheck1_any B u s n W hu (hw s hs) hn (Qy hB hx.size) ((hx.cell (p:=⟨B,0,none⟩) hB).trans hb)
 rintro e w1 ⟨rfl,hx⟩;exact⟨rfl,hx⟩
theorem pCheck13_any(v:Value)(md:Md)(w:World)(h:MdV w v md)(hok:md.ok):
 Calls Tryz.prog 24 #[v] w fun e w'=>e=.returned (.int .i64 (checkM md))/\Ext w w':=by
 obtain⟨vv,vr,rfl,hv,hr⟩:=h;have HV:=Qq hv;have HRS:=Qq hr;have HOK:=Qq hok;obtain⟨Av,cv,rfl,_⟩:=hv;obtain⟨Ar,cr,rfl,_,_,HR⟩:=u64ss_at hr;obtain⟨z,hz⟩:∃z,z=md.n:=⟨_,rfl⟩;have HZ:=Qq hz;rw [<-hz];clear hr hok hz;by_cases h1:z < 1
 ·have HE:=Qq (show checkM md=2 by unfold checkM;rw [<-HZ.out,if_pos (.inl h1)]);go_enter Tryz.func24,Tryz.ntmps24;go_wp2_with fail;go_ret;exact⟨by rw [HE.out] <;> rfl,(by repeat(first|exact Qz|assumption|apply Ext.alloc|apply Ext.drew))⟩
 by_cases h2:64 < z
 ·have HE:=Qq (show checkM md=2 by unfold checkM;rw [<-HZ.out,if_pos (.inr h2)]);go_enter Tryz.func24,Tryz.ntmps24;go_wp2_with fail;go_ret;exact⟨by rw [HE.out] <;> rfl,(by repeat(first|exact Qz|assumption|apply Ext.alloc|apply Ext.drew))⟩
 by_cases h3:4 < md.rel.length
 ·have HE:=Qq (show checkM md=8 by unfold checkM;rw [<-HZ.out,if_neg (by omega),if_pos (.inl h3)]);have h3':(4:Int) < (md.rel.length:Int):=by omega
  clear h3;go_enter Tryz.func24,Tryz.ntmps24;go_wp2_with fail;go_ret;exact⟨by rw [HE.out] <;> rfl,(by repeat(first|exact Qz|assumption|apply Ext.alloc|apply Ext.drew))⟩
 by_cases h4:8 < md.val.length
 ·have HE:=Qq (show checkM md=8 by unfold checkM;rw [<-HZ.out,if_neg (by omega),if_pos (.inr h4)]);have h4':(8:Int) < (md.val.length:Int):=by omega
  have h3':¬(4:Int) < (md.rel.length:Int):=by omega
  clear h3 h4;go_enter Tryz.func24,Tryz.ntmps24;go_wp2_with fail;go_ret;exact⟨by rw [HE.out] <;> rfl,(by repeat(first|exact Qz|assumption|apply Ext.alloc|apply Ext.drew))⟩
 have h4':¬(8:Int) < (md.val.length:Int):=by omega
 have h3':¬(4:Int) < (md.rel.length:Int):=by omega
 obtain⟨n,hnz⟩:∃n:Nat,(n:Int)=z:=⟨z.toNat,by omega⟩;subst hnz;have hn64:n<=64:=by omega
 have hn1:0 < n:=by omega
 have HC:=Qq (show checkM md=if md.rel.any (fun r=> !decide (r.length=n))then 3 else if beyondN md.val n then 2 else if md.rel.any (fun r=>beyondN r n)then 2 else 0 by
  unfold checkM;rw [<-HZ.out,if_neg (by omega),if_neg (by omega),Int.toNat_natCast];simp only [Int.natCast_inj])
 obtain⟨rl,hrl⟩:∃l,l=md.rel:=⟨_,rfl⟩;have HRE:=Qq hrl;rw [<-hrl]at HR HRS h3' h3 HC;rw [<-hrl];clear h1 h2 h4 hrl;go_enter Tryz.func24,Tryz.ntmps24;go_wp2_with fail;go_loopw [26] (fun v wr=>∃k:Nat,v=.int .i64 (k:Int)/\k<=rl.length/\wr=w.alloc (.cells #[.int .i64 (n:Int),.slice Av md.val.length cv,.slice Ar rl.length cr] 28)/\Hid (∀j,j < k->decide ((rl.getD j []).length=n)=true)) (fun v _=>rl.length - (intOf v).toNat)
 case atStart=>exact⟨0,rfl,Nat.zero_le _,rfl,Qq fun j hj=>absurd hj (by omega)⟩
 case round =>
  obtain⟨k,rfl,hk,rfl,HJ⟩:=hrel;by_cases hlt2:k < rl.length
  ·have hk1:(k:Int) < (rl.length:Int):=by omega
   obtain⟨ad,u,rfl,hb1,hu,hc1⟩:=HR.out k hlt2;obtain⟨Au,cu,rfl,_⟩:=hc1;have a0:=(((Ext.refl w).alloc (.cells #[.int .i64 (n:Int),.slice Av md.val.length cv,.slice (some ad) rl.length cr] 28)).cell (p:=ad.add k) (Qj hb1)).trans hu;clear hu;obtain⟨q,hq⟩:∃q,q=(rl.getD k []).length:=⟨_,rfl⟩;have HNX:=Qq (show decide (q=n)=true->∀j,j < k+1->decide ((rl.getD j []).length=n)=true from fun h=>upto2 (P:=fun j=>decide ((rl.getD j []).length=n)=true) HJ.out (by rw [<-hq];exact h));have HHT:=Qq (show decide (q=n)=false->rl.any (fun r=> !decide (r.length=n))=true from fun h=>any_hitR hlt2 (by rw [<-hq,h];rfl));rw [<-hq]at a0
   clear hq;by_cases hd:q=n
   ·have HP:=Qq (HNX.out (decide_eq_true hd));subst hd;have hne:((q:Int) !=(q:Int))=false:=by simp
    go_wp2_with fail;go_roundw
    case rel=>exact⟨k+1,by go_num,by omega,by first|trivial|rfl,HP⟩
    case measure=>simp [intOf];omega
   have HE:=Qq (show checkM md=3 by rw [HC.out,if_pos (HHT.out (decide_eq_false hd))]);have hne:((q:Int) !=(n:Int))=true:=by simp only [bne_iff_ne,ne_eq,Int.natCast_inj];exact hd
   go_wp2_with fail;go_ret;exact⟨by rw [HE.out] <;> rfl,(by repeat(first|exact Qz|assumption|apply Ext.alloc|apply Ext.drew))⟩
  obtain rfl:rl.length=k:=by omega
  have HC2:=Qq (show checkM md=if beyondN md.val n then 2 else if rl.any (fun r=>beyondN r n)then 2 else 0 by
   rw [HC.out,if_neg (by rw [any_missR (P:=fun r=> !decide (r.length=n)) (fun j hj=>by rw [HJ.out j hj];rfl)];simp)])
  clear HC HJ;have hcb:(w.alloc (.cells #[.int .i64 (n:Int),.slice Av md.val.length cv,.slice Ar rl.length cr] 28)).cell? ⟨w.heap.size,0,none⟩=some (.int .i64 (n:Int)):=by simp
  have HCB:=Qq hcb;clear hcb;go_upto_region 11 with(fail);cases hb:beyondN md.val n
  ·have HB:=Qq hb;cases ha:rl.any (fun r=>beyondN r n)
   ·have HE:=Qq (show checkM md=0 by rw [HC2.out,HB.out,ha];rfl);have HA:=Qq ha;clear ha hb;go_wp2_with(first|(go_at_call 44;refine(pOut_any _ md.val n _ (HV.out.ext (by repeat(first|exact Qz|assumption|apply Ext.alloc|apply Ext.drew))) HOK.out.val hn64).mono ?_;rintro e w1 ⟨rfl,hx⟩;rw [HB.out];have HX:=Qq (((Ext.refl w).alloc _).trans hx);have HX1:=Qq hx;have hc2:w1.cell? ⟨w.heap.size,2,none⟩=some (.slice Ar rl.length cr):=(hx.cell (p:=⟨w.heap.size,2,none⟩) (by simp)).trans (by simp);clear hx)|(go_at_call 25;refine(pCheckC_any w.heap.size _ rl n _ (HRS.out.ext HX.out) (by rw [HRE.out];exact HOK.out.rel) hn64 (Qy (by simp) HX1.out.size) ((HX1.out.cell (p:=⟨w.heap.size,0,none⟩) (by simp)).trans HCB.out)).mono ?_;rintro e w2 ⟨rfl,hx⟩;rw [HA.out];have HX2:=Qq hx;clear hx))
    go_ret;exact⟨by rw [HE.out] <;> rfl,HX.out.trans HX2.out⟩
   have HE:=Qq (show checkM md=2 by rw [HC2.out,HB.out,ha];rfl);have HA:=Qq ha;clear ha hb;go_wp2_with(first|(go_at_call 44;refine(pOut_any _ md.val n _ (HV.out.ext (by repeat(first|exact Qz|assumption|apply Ext.alloc|apply Ext.drew))) HOK.out.val hn64).mono ?_;rintro e w1 ⟨rfl,hx⟩;rw [HB.out];have HX:=Qq (((Ext.refl w).alloc _).trans hx);have HX1:=Qq hx;have hc2:w1.cell? ⟨w.heap.size,2,none⟩=some (.slice Ar rl.length cr):=(hx.cell (p:=⟨w.heap.size,2,none⟩) (by simp)).trans (by simp);clear hx)|(go_at_call 25;refine(pCheckC_any w.heap.size _ rl n _ (HRS.out.ext HX.out) (by rw [HRE.out];exact HOK.out.rel) hn64 (Qy (by simp) HX1.out.size) ((HX1.out.cell (p:=⟨w.heap.size,0,none⟩) (by simp)).trans HCB.out)).mono ?_;rintro e w2 ⟨rfl,hx⟩;rw [HA.out];have HX2:=Qq hx;clear hx))
   go_ret;exact⟨by rw [HE.out] <;> rfl,HX.out.trans HX2.out⟩
  have HE:=Qq (show checkM md=2 by rw [HC2.out,hb];rfl);have HB:=Qq hb;clear hb;go_wp2_with(go_at_call 44;refine(pOut_any _ md.val n _ (HV.out.ext (by repeat(first|exact Qz|assumption|apply Ext.alloc|apply Ext.drew))) HOK.out.val hn64).mono ?_;rintro e w1 ⟨rfl,hx⟩;rw [HB.out];have HX:=Qq (((Ext.refl w).alloc _).trans hx);clear hx);go_ret;exact⟨by rw [HE.out] <;> rfl,HX.out⟩
def HasSaid:Prop:=∀(v:Value) (l:List Nat) (q:Int) (w:World),TabZ w->U64s w v l->(∀s∈l,word s)->check02 l.length l=0->0 < l.length->(q=1\/q=2\/q=4\/q=5)->
 Calls Tryz.prog 50 #[v,.int .i64 q] w fun e w'=>e=.returned (.bool (propB q l))/\Ext w w'
theorem pHas1_of(HSS:HasSaid)(B:Nat)(v:Value)(l:List Nat)(q:Int)(w:World)(hT:TabZ w)(h:U64s w v l)(hw:∀s∈l,word s)(hck:check02 l.length l=0)(h0:0 < l.length)(hq:q=1\/q=2\/q=4\/q=5)(hb:w.cell? ⟨B,0,none⟩=some v):
 Calls Tryz.prog 49 #[.int .i64 q,.pointer (some ⟨B,0,none⟩)] w fun e w'=>e=.returned (.bool (!propB q l))/\Ext w w':=by
 have HS:=Qq (HSS v l q w hT h hw hck h0 hq);obtain⟨A,c,rfl,_⟩:=h;obtain⟨pb,hpb⟩:∃b,b=propB q l:=⟨_,rfl⟩;rw [<-hpb]at HS⊢;clear HSS hT hw hck h0 hq hpb;go_enter Tryz.func49,Tryz.ntmps49;go_wp2_with fail;refine HS.out.mono ?_;rintro e w1 ⟨rfl,hx⟩;have HX:=Qq hx;clear hx;go_wp2_with fail;go_ret;exact⟨rfl,HX.out⟩
noncomputable def goodB (lg:Int) (l:List Nat):Bool:= !((propsL lg).any fun q=> !propB q l)
theorem goodB_iff {lg:Int} {l:List Nat} :goodB lg l=true↔goodR lg l:=by
 unfold goodB goodR;rw [Bool.not_eq_true',List.any_eq_false];refine forall_congr' fun q=>imp_congr_right fun _=> ?_
 unfold propB;simp
theorem pHas_of(HSS:HasSaid)(v:Value)(l:List Nat)(lg:Int)(w:World)(hT:TabZ w)(h:U64s w v l)(hw:∀s∈l,word s)(hck:check02 l.length l=0)(h0:0 < l.length)(hlg:0<=lg/\lg<=6):
 Calls Tryz.prog 27 #[v,.int .i64 lg] w fun e w'=>e=.returned (.bool (goodB lg l))/\Ext w w':=by
 have H:=Qq h;have HT:=Qq hT;have HW:=Qq hw;have HCK:=Qq hck;have HP:=Qq (show p15 lg=0 from if_pos hlg);have HGB:=Qq (show goodB lg l= !((propsL lg).any fun q=> !propB q l)from rfl);have HC:=Qq (fun(B:Nat) (vp:Value) (w:World) (hT:TabZ w) (hi:Ints w vp (propsL lg)) (hl:U64s w v l) (hB:B < w.heap.size) (hb:w.cell? ⟨B,0,none⟩=some v)=>
  containsFI_any 49 #[.pointer (some ⟨B,0,none⟩)] (fun _ _=>rfl) (fun q=> !propB q l) vp (propsL lg) w hi
   (fun W q hq hx=>pHas1_of HSS B v l q W (hT.ext hx) (hl.ext hx) hw hck h0 (props_mem hq) ((hx.cell (p:=⟨B,0,none⟩) hB).trans hb)))
 obtain⟨A,c,rfl,_⟩:=h;obtain⟨pb,hpb⟩:∃b,b=(propsL lg).any fun q=> !propB q l:=⟨_,rfl⟩
 rw [<-hpb]at HC HGB;clear HSS hT hw hck hlg hpb;go_enter Tryz.func27,Tryz.ntmps27;go_wp2_with(first|(go_at_call 23;refine(pProps_any lg _).mono ?_;rintro e w1 ⟨vp,rfl,hx1,hvp⟩;rw [HP.out];have HX1:=Qq (((Ext.refl w).alloc _).trans hx1);have HV:=Qq (hvp.out HP.out);have hc1:w1.cell? ⟨w.heap.size,0,none⟩=some (.slice A l.length c):=(hx1.cell (p:=⟨w.heap.size,0,none⟩) (by simp)).trans (by simp);have hb1:w.heap.size < w1.heap.size:=Qy (by simp) hx1.size;clear hx1 hvp)|(go_at_call 47;refine(pCheck02_any _ l _ (H.out.ext HX1.out) HW.out).mono ?_;rintro e w2 ⟨rfl,hx2⟩;rw [HCK.out];have HX2:=Qq (HX1.out.trans hx2);have HV2:=Qq (HV.out.ext hx2);have hc2:=(hx2.cell (p:=⟨w.heap.size,0,none⟩) hb1).trans hc1;have hb2:=Qy hb1 hx2.size;clear hx2)|(go_at_call 48;refine(HC.out w.heap.size _ _ (HT.out.ext HX2.out) HV2.out (H.out.ext HX2.out) hb2 hc2).mono ?_;rintro e w3 ⟨rfl,hx3⟩;have HX3:=Qq (HX2.out.trans hx3);clear hx3))
 go_ret;exact⟨by rw [HGB.out] <;> rfl,HX3.out⟩
theorem pIn1_of(HSS:HasSaid)(B:Nat)(v:Value)(l:List Nat)(lg:Int)(w:World)(hT:TabZ w)(h:U64s w v l)(hw:∀s∈l,word s)(hck:check02 l.length l=0)(h0:0 < l.length)(hlg:0<=lg/\lg<=6)(hb:w.cell? ⟨B,0,none⟩=some (.int .i64 lg)):
 Calls Tryz.prog 26 #[v,.pointer (some ⟨B,0,none⟩)] w fun e w'=>e=.returned (.bool (!goodB lg l))/\Ext w w':=by
 have HS:=Qq (pHas_of HSS v l lg w hT h hw hck h0 hlg);obtain⟨A,c,rfl,_⟩:=h;obtain⟨pb,hpb⟩:∃b,b=goodB lg l:=⟨_,rfl⟩;rw [<-hpb]at HS⊢;clear HSS hT hw hck h0 hlg hpb;go_enter Tryz.func26,Tryz.ntmps26;go_wp2_with fail;refine HS.out.mono ?_;rintro e w1 ⟨rfl,hx⟩;have HX:=Qq hx;clear hx;go_wp2_with fail;go_ret;exact⟨rfl,HX.out⟩
noncomputable def inB (md:Md) (lg:Int):Bool:= !(md.rel.any fun r=> !goodB lg r)
theorem pIn_of(HSS:HasSaid)(vm:Value)(md:Md)(lg:Int)(w:World)(hT:TabZ w)(hm:MdV w vm md)(hok:md.ok)(hck:checkM md=0)(hlg:0<=lg/\lg<=6):
 Calls Tryz.prog 9 #[vm,.int .i64 lg] w fun e w'=>e=.returned (.bool (inB md lg))/\Ext w w':=by
 have HM:=Qq hm;have HT:=Qq hT;have HOK:=Qq hok;have HCK:=Qq hck;have HP:=Qq (show p15 lg=0 from if_pos hlg);have HGB:=Qq (show inB md lg= !(md.rel.any fun r=> !goodB lg r)from rfl);have hz:=checkM_zero hck;have hlow:=row_low hck;have HR:Hid (∀r∈md.rel,check02 r.length r=0/\0 < r.length):=Qq fun r hr=>by
  have hl:=hz.2.2.2.2.1 r hr;exact⟨check02_ok (by omega) (by omega) (hlow r hr),by omega⟩
 have HC:=Qq (fun(B:Nat) (vp:Value) (w:World) (hT:TabZ w) (hi:U64ss w vp md.rel) (hB:B < w.heap.size) (hb:w.cell? ⟨B,0,none⟩=some (.int .i64 lg))=>
  containsR_any 26 #[.pointer (some ⟨B,0,none⟩)] (fun _ _=>rfl) (fun r=> !goodB lg r) vp md.rel w hi
   (fun W u r hr hx hu=>pIn1_of HSS B u r lg W (hT.ext hx) hu (hok.rel r hr) (HR.out r hr).1 (HR.out r hr).2 hlg ((hx.cell (p:=⟨B,0,none⟩) hB).trans hb)))
 obtain⟨vv,vr,rfl,hv,hr⟩:=hm;have HRR:=Qq hr;obtain⟨pb,hpb⟩:∃b,b=(md.rel.any fun r=> !goodB lg r):=⟨_,rfl⟩;rw [<-hpb]at HC HGB;clear HSS hT hok hck hz hlow hlg hpb hv hr;go_enter Tryz.func9,Tryz.ntmps9;go_wp2_with(first|(go_at_call 23;refine(pProps_any lg _).mono ?_;rintro e w1 ⟨vp,rfl,hx1,hvp⟩;rw [HP.out];have HX1:=Qq ((((Ext.refl w).alloc _).alloc _).trans hx1);have hm0:w1.cell? ⟨w.heap.size,0,none⟩=some (.int .i64 md.n):=(hx1.cell (p:=⟨w.heap.size,0,none⟩) (by simp;omega)).trans (by simp);have hm1:w1.cell? ⟨w.heap.size,1,none⟩=some vv:=(hx1.cell (p:=⟨w.heap.size,1,none⟩) (by simp;omega)).trans (by simp);have hm2:w1.cell? ⟨w.heap.size,2,none⟩=some vr:=(hx1.cell (p:=⟨w.heap.size,2,none⟩) (by simp;omega)).trans (by simp);have hl0:w1.cell? ⟨w.heap.size+1,0,none⟩=some (.int .i64 lg):=(hx1.cell (p:=⟨w.heap.size+1,0,none⟩) (by simp)).trans (by simp);have hb1:w.heap.size+1 < w1.heap.size:=Qy (by simp) hx1.size;clear hx1 hvp)|(go_at_call 24;refine(pCheck13_any _ md _ (HM.out.ext HX1.out) HOK.out).mono ?_;rintro e w2 ⟨rfl,hx2⟩;rw [HCK.out];have HX2:=Qq (HX1.out.trans hx2);have hc2:=(hx2.cell (p:=⟨w.heap.size,2,none⟩) (by show w.heap.size < _;omega)).trans hm2;have hl2:=(hx2.cell (p:=⟨w.heap.size+1,0,none⟩) hb1).trans hl0;have hb2:=Qy hb1 hx2.size;clear hx2)|(go_at_call 25;refine(HC.out (w.heap.size+1) _ _ (HT.out.ext HX2.out) (HRR.out.ext HX2.out) hb2 hl2).mono ?_;rintro e w3 ⟨rfl,hx3⟩;have HX3:=Qq (HX2.out.trans hx3);clear hx3))
 go_ret;exact⟨by rw [HGB.out] <;> rfl,HX3.out⟩
theorem inB_rows {md:Md} {lg:Int} :inB md lg=true↔∀r∈md.rel,goodR lg r:=by
 unfold inB;rw [Bool.not_eq_true',List.any_eq_false];refine forall_congr' fun r=>imp_congr_right fun _=> ?_
 rw [<-goodB_iff];cases goodB lg r <;> simp
theorem inB_good {md:Md} {lg:Int}(hck:checkM md=0)(hlg:0<=lg/\lg<=6)(h:inB md lg=true):GoodM md lg:=by
 exact⟨hlg,hck,inB_rows.1 h⟩
theorem has_said:HasSaid:=by
 intro v l q w hT h hw hck _ hq;rcases hq with rfl|rfl|rfl|rfl
 ·exact has1_any v l w h hw hck
 ·exact has2_any v l w h hw hck
 ·exact has4_any v l w hT h hw hck
 exact has5_any v l w hT h hw hck
theorem pIn_any(vm:Value)(md:Md)(lg:Int)(w:World)(hT:TabZ w)(hm:MdV w vm md)(hok:md.ok)(hck:checkM md=0)(hlg:0<=lg/\lg<=6):
 Calls Tryz.prog 9 #[vm,.int .i64 lg] w fun e w'=>e=.returned (.bool (inB md lg))/\Ext w w':=pIn_of has_said vm md lg w hT hm hok hck hlg
theorem pIn_no(vm:Value)(md:Md)(lg:Int)(w:World)(hm:MdV w vm md)(hlg:¬(0<=lg/\lg<=6)):
 Calls Tryz.prog 9 #[vm,.int .i64 lg] w fun e w'=>e=.returned (.bool false)/\Ext w w':=by
 have HP:=Qq (show p15 lg=1 from if_neg hlg);obtain⟨vv,vr,rfl,hv,hr⟩:=hm;clear hlg hv hr;go_enter Tryz.func9,Tryz.ntmps9;go_wp2_with(go_at_call 23;refine(pProps_any lg _).mono ?_;rintro e w1 ⟨vp,rfl,hx1,hvp⟩;rw [HP.out];have HX1:=Qq ((((Ext.refl w).alloc _).alloc _).trans hx1);clear hx1 hvp);go_ret;exact⟨rfl,HX1.out⟩
noncomputable def inAll (md:Md) (lg:Int):Bool:=decide (0<=lg/\lg<=6)&&inB md lg
theorem inAll_any(vm:Value)(md:Md)(lg:Int)(w:World)(hT:TabZ w)(hm:MdV w vm md)(hok:md.ok)(hck:checkM md=0):
 Calls Tryz.prog 9 #[vm,.int .i64 lg] w fun e w'=>e=.returned (.bool (inAll md lg))/\Ext w w':=by
 unfold inAll;by_cases h:0<=lg/\lg<=6
 ·rw [decide_eq_true h,Bool.true_and];exact pIn_any vm md lg w hT hm hok hck h
 rw [decide_eq_false h,Bool.false_and];exact pIn_no vm md lg w hm h
theorem inAll_good {md:Md} {lg:Int}(hck:checkM md=0)(h:inAll md lg=true):GoodM md lg:=by
 unfold inAll at h;rw [Bool.and_eq_true]at h;exact inB_good hck (of_decide_eq_true h.1) h.2
theorem pIn_bad(vm:Value)(md:Md)(lg:Int)(w:World)(hm:MdV w vm md)(hok:md.ok)(hlg:0<=lg/\lg<=6)(hck:checkM md≠0):
 Calls Tryz.prog 9 #[vm,.int .i64 lg] w fun e w'=>e=.returned (.bool false)/\Ext w w':=by
 have HM:=Qq hm;have HOK:=Qq hok;have HP:=Qq (show p15 lg=0 from if_pos hlg);obtain⟨ck,hcc⟩:∃z,z=checkM md:=⟨_,rfl⟩;have HCC:=Qq hcc;have hck1:(ck==0)=false:=by rw [beq_eq_false_iff_ne,hcc];exact hck
 obtain⟨vv,vr,rfl,hv,hr⟩:=hm;clear hok hlg hck hv hr hcc;go_enter Tryz.func9,Tryz.ntmps9;go_wp2_with(first|(go_at_call 23;refine(pProps_any lg _).mono ?_;rintro e w1 ⟨vp,rfl,hx1,hvp⟩;rw [HP.out];have HX1:=Qq ((((Ext.refl w).alloc _).alloc _).trans hx1);have hm0:w1.cell? ⟨w.heap.size,0,none⟩=some (.int .i64 md.n):=(hx1.cell (p:=⟨w.heap.size,0,none⟩) (by simp;omega)).trans (by simp);have hm1:w1.cell? ⟨w.heap.size,1,none⟩=some vv:=(hx1.cell (p:=⟨w.heap.size,1,none⟩) (by simp;omega)).trans (by simp);have hm2:w1.cell? ⟨w.heap.size,2,none⟩=some vr:=(hx1.cell (p:=⟨w.heap.size,2,none⟩) (by simp;omega)).trans (by simp);have hb1:w.heap.size+1 < w1.heap.size:=Qy (by simp) hx1.size;clear hx1 hvp)|(go_at_call 24;refine(pCheck13_any _ md _ (HM.out.ext HX1.out) HOK.out).mono ?_;rintro e w2 ⟨rfl,hx2⟩;rw [<-HCC.out];have HX2:=Qq (HX1.out.trans hx2);clear hx2))
 go_ret;exact⟨rfl,HX2.out⟩
noncomputable def inG (md:Md) (lg:Int):Bool:=decide (checkM md=0)&&inAll md lg
theorem inG_any(vm:Value)(md:Md)(lg:Int)(w:World)(hT:TabZ w)(hm:MdV w vm md)(hok:md.ok):
 Calls Tryz.prog 9 #[vm,.int .i64 lg] w fun e w'=>e=.returned (.bool (inG md lg))/\Ext w w':=by
 unfold inG;by_cases hc:checkM md=0
 ·rw [decide_eq_true hc,Bool.true_and];exact inAll_any vm md lg w hT hm hok hc
 rw [decide_eq_false hc,Bool.false_and];by_cases h:0<=lg/\lg<=6
 ·exact pIn_bad vm md lg w hm hok h hc
 exact pIn_no vm md lg w hm h
theorem inG_good {md:Md} {lg:Int}(h:inG md lg=true):checkM md=0/\GoodM md lg:=by
 unfold inG at h;rw [Bool.and_eq_true]at h;have hc:=of_decide_eq_true h.1;exact⟨hc,inAll_good hc h.2⟩
def diaP(r:List Nat)(s:Nat):Nat:=if check02 r.length r=0 then difN (allW r.length) (boxN r r.length (allW 64^^^s))else 0
theorem compl_word {s:Nat}(hs:word s):word (allW 64^^^s):=xor_word (allw_word (Nat.le_refl _)) hs
theorem bits_compl {s:Nat}(hs:word s):bits .xor .u64 IntKind.u64.max (s:Int)=((allW 64^^^s:Nat):Int):=bits_xor (a:=allW 64) (allw_word (Nat.le_refl _)) hs
theorem pDia_any(v:Value)(r:List Nat)(s:Nat)(w:World)(h:U64s w v r)(hw:∀s∈r,word s)(hs:word s):
 Calls Tryz.prog 92 #[v,.int .u64 (s:Int)] w fun e w'=>e=.returned (.int .u64 ((diaP r s:Nat):Int))/\Ext w w':=by
 have H:=Qq h;obtain⟨A,c,rfl,_,_,HL⟩:=u64_at h;have HWD:=Qq hw;have HS:=Qq (compl_word hs);have HCO:=Qq (bits_compl hs);clear h hw hs;by_cases hck:check02 r.length r=0
 ·have hn:=check02_len hck;have HC:=Qq hck;have HB:=Qq (show boxP r (allW 64^^^s)=boxN r r.length (allW 64^^^s) by unfold boxP;rw [if_pos HC.out]);have HD:=Qq (show diaP r s=difN (allW r.length) (boxP r (allW 64^^^s)) by rw [HB.out];unfold diaP;rw [if_pos HC.out]);have HAN:=Qq (bits_andNot (a:=allW r.length) (b:=boxP r (allW 64^^^s)) (allw_word hn) (by rw [HB.out];exact mask_word hn _));clear hck;go_enter Tryz.func92,Tryz.ntmps92;go_wp2_with(first|(go_at_call 47;refine(pCheck02_any _ r _ H.out HWD.out).mono ?_;rintro e w1 ⟨rfl,hx1⟩;rw [HC.out];have HX1:=Qq hx1;clear hx1)|(go_at_call 74;refine(pAll02_any r.length hn _).mono ?_;rintro e w3 ⟨rfl,rfl⟩)|(rw [HCO.out];go_at_call 91;refine(pBox_any _ r _ _ (H.out.ext HX1.out) HWD.out HS.out).mono ?_;rintro e w4 ⟨rfl,hx4⟩;have HX4:=Qq hx4;clear hx4))
  go_ret;exact⟨by rw [HD.out,<-HAN.out] <;> rfl,HX1.out.trans HX4.out⟩
 have HC:=Qq hck;have HB:=Qq (show diaP r s=0 by unfold diaP;rw [if_neg HC.out]);obtain⟨ce,hce⟩:∃z,z=check02 r.length r:=⟨_,rfl⟩;rw [<-hce]at hck;have hne:(ce !=0)=true:=by simpa using hck
 have HCE:=Qq hce;clear hck hce;go_enter Tryz.func92,Tryz.ntmps92;go_wp2_with(go_at_call 47;refine(pCheck02_any _ r _ H.out HWD.out).mono ?_;rintro e w1 ⟨rfl,hx1⟩;rw [<-HCE.out];have HX1:=Qq hx1;clear hx1);go_ret;exact⟨by rw [HB.out] <;> rfl,HX1.out⟩
theorem pCommon_any(v:Value)(r:List Nat)(n c s:Nat)(w:World)(h:U64s w v r)(hw:∀s∈r,word s)(hl:r.length=n)(hck:check02 r.length r=0)(hc:word c)(hs:word s):
 Calls Tryz.prog 95 #[v,.int .u64 ((allW n:Nat):Int),.int .u64 (c:Int),.int .u64 (s:Int)] w fun e w'=>e=.returned (.int .u64 ((commonM r n c s:Nat):Int))/\Ext w w':=by
 have H:=Qq h;have HWD:=Qq hw;have hn:n<=64:=by rw [<-hl];exact check02_len hck
 have HRL:=Qq (rows_low (r:=r) (n:=n) hl (by
  have:=(valid_iff (l:=r)).1 (by unfold valid02;rw [hck];rfl);rw [hl]at this;exact this.2))
 have HAW:=Qq (allw_word hn);have HC:=Qq hc;have HS:=Qq hs;have HBX:=Qq (show ∀m,boxP r m=boxN r n m from fun m=>by unfold boxP;rw [if_pos hck,hl]);have HA1:=Qq (bits_andNot (allw_word hn) hc);clear h hw hck hc hs hl;go_enter Tryz.func95,Tryz.ntmps95;go_wp2_with fail;go_loopw [9] (fun v wr=>∃out:Nat,v=.int .u64 (out:Int)/\Hid (word out)/\Hid (Ext w wr)/\Hid ((∀i,(commonM r n c s).testBit i=true->out.testBit i=true)/\∀i,(gfF r n c s out).testBit i=true->out.testBit i=true)) (fun v _=>(intOf v).toNat)
 case atStart=>exact⟨allW n,rfl,HAW,Qq Qz,Qq ⟨common_start HRL.out,gf_start HRL.out⟩⟩
 case round =>
  obtain⟨out,rfl,HO,HX,HI⟩:=hrel;have HA2:=Qq (bits_and HS.out HO.out);have HA3:=Qq (bits_or (a:=difN (allW n) c) (b:=s&&&out) (dif_word HAW.out) (and_word HS.out));have HMW:=Qq (show word (difN (allW n) c|||(s&&&out))from or_word (dif_word HAW.out) (and_word HS.out));obtain⟨nx,hnx⟩:∃x,x=gfF r n c s out:=⟨_,rfl⟩;have HNX:=Qq hnx;have HBE:=Qq (show boxP r (difN (allW n) c|||(s&&&out))=nx by rw [HBX.out,hnx];rfl);have HNW:=Qq (show word nx by rw [hnx];exact mask_word hn _);clear hnx;by_cases hd:nx=out
  ·have heq:((nx:Int)==(out:Int))=true:=by simp [hd]
   have HE:=Qq (common_fix HRL.out (by rw [<-HNX.out];exact hd) HI.out.1);clear hd;go_wp2_with(rw [HA1.out,HA2.out,HA3.out];go_at_call 91;refine(pBox_any _ r _ _ (H.out.ext HX.out) HWD.out HMW.out).mono ?_;rintro e w4 ⟨rfl,hx4⟩;rw [HBE.out];have HX4:=Qq hx4;clear hx4);go_ret;exact⟨by rw [HE.out] <;> rfl,HX.out.trans HX4.out⟩
  have heq:((nx:Int)==(out:Int))=false:=by simp only [beq_eq_false_iff_ne,ne_eq,Int.natCast_inj];exact hd
  have HLT:=Qq (sub_lt (by rw [HNX.out];exact HI.out.2) hd);clear hd;go_wp2_with(rw [HA1.out,HA2.out,HA3.out];go_at_call 91;refine(pBox_any _ r _ _ (H.out.ext HX.out) HWD.out HMW.out).mono ?_;rintro e w4 ⟨rfl,hx4⟩;rw [HBE.out];have HX4:=Qq hx4;clear hx4);go_roundw
  case rel=>exact⟨nx,rfl,HNW,Qq (HX.out.trans HX4.out),Qq (by rw [HNX.out];exact⟨common_below HRL.out HI.out.1,gf_dec HRL.out HI.out.2⟩)⟩
  case measure=>have:=HLT.out;simp [intOf];omega
theorem pClone_any(v:Value)(l:List Nat)(w:World)(h:U64s w v l)(h0:0 < l.length)(h64:l.length<=64):
 Calls Tryz.prog 120 #[v] w fun e w'=>∃u,e=.returned u/\MadeU w.heap.size w' u l/\Ext w w':=by
 obtain⟨A,c,rfl,_,_,HL⟩:=u64_at h;obtain⟨iU,hiU,hzU0,hzU1,hzU2⟩:=info_parts tInfoU8;clear h;obtain⟨ad,rfl,hadl,_⟩:=HL.out 0 h0;have HNEW:=Qq (show ∀(j:Nat) u,(uV l)[j]?=some u->(w.alloc (.cells #[] 43)).cell? (ad.add j)=some u from row_of_u64 fun i hi=>by
  obtain⟨ad2,e,_,hc⟩:=HL.out i hi;injection e with e;subst e;exact(((Ext.refl w).alloc _).cell (p:=ad.add i) (Qj hadl)).trans hc)
 have HRE:=Qq (row_empty w 43);have q:∀(w:World) (a:Option Addr) (n c n' c':Nat),(binOp .eql 25 (.slice a n c) (.slice none n' c')).run Tryz.prog w=.ok (.bool a.isNone) w:=fun w a n c n' c'=>Lib.run_eql_slice_nil w _ _ a n c n' c' Tryz.underlying25
 obtain⟨n,hn⟩:∃n,n=l.length:=⟨_,rfl⟩;have HN:=Qq hn;rw [<-hn]at h64 h0⊢;have hm1:0+n<=maxLen:=by unfold maxLen;omega
 have hm2:(0+n)*8<=140737488355328:=by omega
 clear hn;go_enter Tryz.func120,Tryz.ntmps120;go_wp2_with(at_builtin;refine wpList_append_own_at _ rfl _ _ 25 rfl w.heap.size 43 iU (.int .u64 0) 1 8 Tryz.underlying25 hiU hzU0 hzU1 hzU2 rfl (by decide) _ 0 [] rfl HRE.out ad n c (uV l) rfl (by rw [uv_len,Nat.mul_one];exact HN.out.symm) HNEW.out (uv_one l) hm1 hm2 (by simp) ?_);intro v3 w3 hown3 hgrow3 _ _;have HX3:=Qq (show Ext w w3 from((Ext.refl w).alloc _).grown hgrow3 (fun k hk=>by have h2:w.heap.size=k:=Option.some.inj hk;omega));have HM:=Qq (show MadeU w.heap.size w3 v3 l by
  unfold MadeU;rw [<-HN.out];exact hown3)
 clear hown3 hgrow3;obtain⟨g,cap,rfl,hgl,hgb,_,hcm,_,_⟩:=HM.out.slice (by rw [<-HN.out];exact h0);rw [<-HN.out]at HM⊢;clear hgl;go_wp2_with fail;go_ret;exact⟨_,rfl,HM.out,HX3.out⟩
def grpI(n:Nat)(meet:Bool):Nat:=if meet then allW n else 0
def grpK(rl:List (List Nat))(gn:Nat)(meet:Bool)(n k:Nat):List Nat:=(List.range n).map fun i=>(List.range k).foldl (grpS rl gn meet i) (grpI n meet)
def anyK(gn k:Nat):Bool:=(List.range k).any fun a=>gn.testBit a
def gatK(rl:List (List Nat))(gn:Nat)(meet:Bool)(n k:Nat):List Nat:=bif anyK gn k then grpK rl gn meet n k else []
theorem anyK_succ(gn k:Nat):anyK gn (k+1)=(anyK gn k||gn.testBit k):=by
 unfold anyK;rw [List.range_succ,List.any_append];simp
theorem gatK_no {rl:List (List Nat)} {gn n k:Nat} {meet:Bool}(h:gn.testBit k=false):gatK rl gn meet n (k+1)=gatK rl gn meet n k:=by
 unfold gatK;rw [anyK_succ,h,Bool.or_false]
 congr 1
 unfold grpK;refine List.map_congr_left fun i _=> ?_
 rw [fold_snoc];unfold grpS;rw [h];rfl
theorem grpK_none {rl:List (List Nat)} {gn n k:Nat} {meet:Bool}(h:anyK gn k=false) {i:Nat} :(List.range k).foldl (grpS rl gn meet i) (grpI n meet)=grpI n meet:=by
 induction k with
 |zero=>rfl
 |succ k ih =>
  rw [anyK_succ,Bool.or_eq_false_iff]at h;rw [fold_snoc,ih h.1];unfold grpS;rw [h.2];rfl
theorem gatK_first {rl:List (List Nat)} {gn n k:Nat} {meet:Bool}(h:gn.testBit k=true)(hn:anyK gn k=false)(hl:(rl.getD k []).length=n)(hlow:∀s∈rl.getD k [],s < 2^n):gatK rl gn meet n (k+1)=rl.getD k []:=by
 unfold gatK;rw [anyK_succ,h,Bool.or_true];show grpK rl gn meet n (k+1)=_;refine List.ext_getElem (by rw [hl];unfold grpK;rw [List.length_map,List.length_range]) fun i h1 h2=> ?_
 simp only [grpK,List.getElem_map,List.getElem_range];rw [fold_snoc,grpK_none hn];unfold grpS grpI;rw [h];have e:(rl.getD k []).getD i 0=(rl.getD k [])[i]:=by rw [Qk,Qv h2];rfl
 rw [e];have hs:=hlow _ (List.getElem_mem h2);cases meet
 ·simp
 simp only [↓reduceIte];refine Nat.eq_of_testBit_eq fun j=> ?_
 rw [Nat.testBit_and,allw_bit];cases hj:((rl.getD k [])[i]).testBit j
 ·simp
 rw [decide_eq_true (bit_lt hs hj)];rfl
theorem gatK_all {rl:List (List Nat)} {gn n:Nat} {meet:Bool}(h1:1<=gn)(hg:gn < 2^rl.length):gatK rl gn meet n rl.length=(List.range n).map (grpN rl gn meet n):=by
 have ha:anyK gn rl.length=true:=by
  obtain⟨i,hi⟩:=Nat.exists_testBit_of_ne_zero (show gn≠0 by omega);exact List.any_eq_true.2 ⟨i,List.mem_range.2 (bit_lt hg hi),hi⟩
 unfold gatK;rw [ha];rfl
theorem gatK_len {rl:List (List Nat)} {gn n k:Nat} {meet:Bool}(h:anyK gn k=true):(gatK rl gn meet n k).length=n:=by
 unfold gatK;rw [h];unfold grpK;simp
def midK(J:Nat->Nat->Nat)(o r:List Nat)(k:Nat):List Nat:=(List.range o.length).map fun i=>if i < k then J (o.getD i 0) (r.getD i 0)else o.getD i 0
theorem midK_zero(J:Nat->Nat->Nat)(o r:List Nat):midK J o r 0=o:=by
 refine List.ext_getElem (by simp [midK]) fun i h1 h2=> ?_
 simp only [midK,List.getElem_map,List.getElem_range];rw [if_neg (Nat.not_lt_zero _),Qk,Qv h2];rfl
theorem midK_len(J:Nat->Nat->Nat)(o r:List Nat)(k:Nat):(midK J o r k).length=o.length:=by simp [midK]
theorem midK_get {J:Nat->Nat->Nat} {o r:List Nat} {k i:Nat}(hi:i < o.length):(midK J o r k).getD i 0=if i < k then J (o.getD i 0) (r.getD i 0)else o.getD i 0:=by
 unfold midK;rw [Qk,List.getElem?_map,List.getElem?_range hi];rfl
theorem midK_step {J:Nat->Nat->Nat} {o r:List Nat} {k:Nat}(_hk:k < o.length):(midK J o r k).set k (J (o.getD k 0) (r.getD k 0))=midK J o r (k+1):=by
 refine List.ext_getElem (by simp [midK]) fun i h1 h2=> ?_
 have hi:i < o.length:=by rw [midK_len]at h2;exact h2
 rw [List.getElem_set]
 split
 ·rename_i e;subst e;simp only [midK,List.getElem_map,List.getElem_range];rw [if_pos (Nat.lt_succ_self _)]
 rename_i e;simp only [midK,List.getElem_map,List.getElem_range];by_cases h3:i < k
 ·rw [if_pos h3,if_pos (by omega)]
 rw [if_neg h3,if_neg (by omega)]
theorem gatK_next {rl:List (List Nat)} {gn n k:Nat} {meet:Bool}(h:gn.testBit k=true)(hn:anyK gn k=true):midK (fun x y=>if meet then x&&&y else x|||y) (gatK rl gn meet n k) (rl.getD k []) n=gatK rl gn meet n (k+1):=by
 have hl:=gatK_len (rl:=rl) (n:=n) (meet:=meet) hn;refine List.ext_getElem (by rw [midK_len,hl,gatK_len (by rw [anyK_succ,hn];rfl)]) fun i h1 h2=> ?_
 have hi:i < n:=by rw [midK_len,hl]at h1;exact h1
 simp only [midK,List.getElem_map,List.getElem_range,gatK,anyK_succ,hn,Bool.true_or,cond_true,grpK];rw [if_pos hi,fold_snoc,Qk,List.getElem?_map,List.getElem?_range hi];simp only [Option.map_some,Option.getD_some];unfold grpS;rw [h];cases meet <;> rfl
end Go.Proofs.YtmidgcldljfkcaaGreatDoor
