/- slices.IndexFunc and ContainsFunc, with a test of any function (I). -/
import Derived.Test.YtmidgcldljfkcaaGreatDoorM01
import Derived.Test.YtmidgcldljfkcaaGreatDoorM31
import Derived.Test.YtmidgcldljfkcaaGreatDoorM13
import Derived.Test.YtmidgcldljfkcaaGreatDoorM04
import Derived.Test.YtmidgcldljfkcaaGreatDoorM16
import Derived.Test.YtmidgcldljfkcaaGreatDoorM32
namespace Go.Proofs.YtmidgcldljfkcaaGreatDoor
set_option maxRecDepth 100000
set_option maxHeartbeats 128000000
open Go.RowKit
theorem Qgy(g:Nat)(lb:Array Value)(eg:∀args w,(callFunc g args).run Tryz.prog w=.ok (.enter g args) w)(p:Int->Bool)(v:Value)(l:List (Int))(w:World)(h:Zi w v l)
 (hp:∀(W:World) (s:Int),s∈l->Ext w W->Calls Tryz.prog g (#[.int .i64 s]++lb) W fun e w'=>e=.returned (.bool (p s))/\Ext W w'):
 Calls Tryz.prog 75 #[v,.func (.func g) #[] lb] w fun e w'=>e=.returned (.int .i64 (Bo p l))/\Ext w w':=by
 obtain⟨A,c,rfl,hcap,hmax,hr⟩:=h;have HR:=Qq hr;clear hr;unfold maxLen at hmax;have HP:=Qq hp;clear hp;go_enter Tryz.func75,Tryz.ntmps75;go_wp2_with fail;go_loopw [5,8] (fun _ i wr=>∃k:Nat,k<=l.length/\i=.int .i64 (k:Int)/\Hid (∀t∈l.take k,p t=false)/\Hid (Ext w wr)) (fun _ i _=>l.length - (intOf i).toNat)
 case atStart=>exact⟨0,Nat.zero_le _,rfl,Qq (by simp),Qq Qz⟩
 case round =>
  obtain⟨k,hk,rfl,HNI,HX⟩:=hrel;by_cases hlt2:k < l.length
  ·obtain⟨s,hs⟩:∃s,l[k]?=some s:=⟨_,Qv hlt2⟩;obtain⟨ad,rfl,hb1,hcz⟩:=HR.out (by intro e;rw [e]at hlt2;simp at hlt2);have a0:wr.cell? (ad.add k)=some (.int .i64 s):=(HX.out.cell (p:=ad.add k) (Qj hb1)).trans (hcz k s hs);clear hcz;have HA:=Qq hs;have hk1:(k:Int) < (l.length:Int):=by omega
   clear hs;cases hps:p s
   ·have HT:Hid (∀t∈l.take (k+1),p t=false):=Qq (by
     rw [Ti HA.out];intro t ht;rcases List.mem_append.1 ht with ht|ht
     ·exact HNI.out t ht
     rw [List.mem_singleton.1 ht];exact hps)
    go_wp2_with(refine(HP.out _ s (Qjt HA.out) HX.out).mono ?_;rintro e w1 ⟨rfl,hx⟩;rw [hps]);go_roundw
    case rel=>exact⟨k+1,by omega,by go_num,HT,Qq (HX.out.trans hx)⟩
    case measure=>simp [intOf];omega
   have HE:=Qq (Mt (p:=p) HA.out hps HNI.out);go_wp2_with(refine(HP.out _ s (Qjt HA.out) HX.out).mono ?_;rintro e w1 ⟨rfl,hx⟩;rw [hps]);go_ret;exact⟨by rw [HE.out] <;> rfl,HX.out.trans hx⟩
  obtain rfl:l.length=k:=by omega
  have HE:=Qq (Rd (p:=p) (l:=l) (fun t ht=>HNI.out t (by rw [List.take_of_length_le (Nat.le_refl _)];exact ht)));go_wp2_with fail;go_ret;exact⟨by rw [HE.out] <;> rfl,HX.out⟩
theorem Qji(g:Nat)(lb:Array Value)(eg:∀args w,(callFunc g args).run Tryz.prog w=.ok (.enter g args) w)(p:Int->Bool)(v:Value)(l:List (Int))(w:World)(h:Zi w v l)
 (hp:∀(W:World) (s:Int),s∈l->Ext w W->Calls Tryz.prog g (#[.int .i64 s]++lb) W fun e w'=>e=.returned (.bool (p s))/\Ext W w'):
 Calls Tryz.prog 48 #[v,.func (.func g) #[] lb] w fun e w'=>e=.returned (.bool (l.any p))/\Ext w w':=by
 have HI:=Qq (Qgy g lb eg p v l w h hp);have HE:=Qq (Mr p l);clear hp h;obtain⟨z,hz⟩:∃z,z=Bo p l:=⟨_,rfl⟩;rw [<-hz]at HI HE;clear hz;go_enter Tryz.func48,Tryz.ntmps48;go_wp2_with(refine HI.out.mono ?_;rintro e w1 ⟨rfl,hx⟩);go_ret;exact⟨by rw [<-HE.out] <;> rfl,hx⟩
theorem Sq(w:World)(l:List Int)(t:TypeId)(hl:l.length<=10):Zi (w.alloc (.cells (l.map (Value.int .i64)).toArray t)) (.slice (some ⟨w.heap.size,0,none⟩) l.length l.length) l:=by
 refine⟨_,_,rfl,Nat.le_refl _,by unfold maxLen;omega,fun _=>⟨_,rfl,by simp,fun k z hk=> ?_⟩⟩;have h1:=heap_alloc_new w (.cells (l.map (Value.int .i64)).toArray t);rw [Xs];have h2:(w.alloc (.cells (l.map (Value.int .i64)).toArray t)).heap[w.heap.size]?=some (Obj.cells (l.map (Value.int .i64)).toArray t (0,0)):=h1;simp only [World.cell?,h2];rw [List.getElem?_toArray,List.getElem?_map,hk];rfl
theorem Th(lg:Int)(w:World):
 Calls Tryz.prog 23 #[.int .i64 lg] w fun e w'=>∃v,e=.returned (.tuple #[v,.int .i64 (p15 lg)])/\Ext w w'/\Hid (p15 lg=0->Zi w' v (Dk lg)):=by
 by_cases hc:0<=lg/\lg<=6
 ·have hcl:lg=0\/lg=1\/lg=2\/lg=3\/lg=4\/lg=5\/lg=6:=by omega
  clear hc;rcases hcl with rfl|rfl|rfl|rfl|rfl|rfl|rfl
  all_goals
   go_enter Tryz.func23,Tryz.ntmps23;go_wp2_with fail;go_ret2
   first
   |exact⟨_,rfl,Qz,Qq fun _=>Zi.none_ _⟩
   |exact⟨_,rfl,Qz.alloc _,Qq fun _=>Sq w [1] _ (by decide)⟩
   |exact⟨_,rfl,Qz.alloc _,Qq fun _=>Sq w [2] _ (by decide)⟩
   |exact⟨_,rfl,Qz.alloc _,Qq fun _=>Sq w [4] _ (by decide)⟩
   |exact⟨_,rfl,Qz.alloc _,Qq fun _=>Sq w [2,4] _ (by decide)⟩
   |exact⟨_,rfl,Qz.alloc _,Qq fun _=>Sq w [1,4,5] _ (by decide)⟩
   |exact⟨_,rfl,Qz.alloc _,Qq fun _=>Sq w [2,4,5] _ (by decide)⟩
 have h0:(lg==0)=false:=by rw [beq_eq_false_iff_ne];omega
 have h1:(lg==1)=false:=by rw [beq_eq_false_iff_ne];omega
 have h2:(lg==2)=false:=by rw [beq_eq_false_iff_ne];omega
 have h3:(lg==3)=false:=by rw [beq_eq_false_iff_ne];omega
 have h4:(lg==4)=false:=by rw [beq_eq_false_iff_ne];omega
 have h5:(lg==5)=false:=by rw [beq_eq_false_iff_ne];omega
 have h6:(lg==6)=false:=by rw [beq_eq_false_iff_ne];omega
 have HC:=Qq (show p15 lg=1 from if_neg hc);clear hc;go_enter Tryz.func23,Tryz.ntmps23;go_wp2_with fail;go_ret2;exact⟨_,by rw [HC.out] <;> rfl,Qz,Qq fun e=>by rw [HC.out]at e;cases e⟩
theorem Qdm(g:Nat)(lb:Array Value)(eg:∀args w,(callFunc g args).run Tryz.prog w=.ok (.enter g args) w)(p:Nat->Bool)(v:Value)(l:List (Nat))(w:World)(h:Yi w v l)
 (hp:∀(W:World) (s:Nat),s∈l->Ext w W->Calls Tryz.prog g (#[.int .u64 (s:Int)]++lb) W fun e w'=>e=.returned (.bool (p s))/\Ext W w'):
 Calls Tryz.prog 101 #[v,.func (.func g) #[] lb] w fun e w'=>e=.returned (.int .i64 (Bo p l))/\Ext w w':=by
 obtain⟨A,c,rfl,hcap,hmax,HR⟩:=Fl h;unfold maxLen at hmax;have HP:=Qq hp;clear h hp;go_enter Tryz.func101,Tryz.ntmps101;go_wp2_with fail;go_loopw [5,8] (fun _ i wr=>∃k:Nat,k<=l.length/\i=.int .i64 (k:Int)/\Hid (∀t∈l.take k,p t=false)/\Hid (Ext w wr)) (fun _ i _=>l.length - (intOf i).toNat)
 case atStart=>exact⟨0,Nat.zero_le _,rfl,Qq (by simp),Qq Qz⟩
 case round =>
  obtain⟨k,hk,rfl,HNI,HX⟩:=hrel;by_cases hlt2:k < l.length
  ·obtain⟨s,hs⟩:∃s,l[k]?=some s:=⟨_,Qv hlt2⟩;obtain⟨ad,rfl,hb1,hc1⟩:=HR.out k hlt2;rw [Qk,hs,Option.getD_some]at hc1;have a0:wr.cell? (ad.add k)=some (.int .u64 (s:Int)):=(HX.out.cell (p:=ad.add k) (Qj hb1)).trans hc1;clear hc1;have HA:=Qq hs;have hk1:(k:Int) < (l.length:Int):=by omega
   clear hs;cases hps:p s
   ·have HT:Hid (∀t∈l.take (k+1),p t=false):=Qq (by
     rw [Ti HA.out];intro t ht;rcases List.mem_append.1 ht with ht|ht
     ·exact HNI.out t ht
     rw [List.mem_singleton.1 ht];exact hps)
    go_wp2_with(refine(HP.out _ s (Qjt HA.out) HX.out).mono ?_;rintro e w1 ⟨rfl,hx⟩;rw [hps]);go_roundw
    case rel=>exact⟨k+1,by omega,by go_num,HT,Qq (HX.out.trans hx)⟩
    case measure=>simp [intOf];omega
   have HE:=Qq (Mt (p:=p) HA.out hps HNI.out);go_wp2_with(refine(HP.out _ s (Qjt HA.out) HX.out).mono ?_;rintro e w1 ⟨rfl,hx⟩;rw [hps]);go_ret;exact⟨by rw [HE.out] <;> rfl,HX.out.trans hx⟩
  obtain rfl:l.length=k:=by omega
  have HE:=Qq (Rd (p:=p) (l:=l) (fun t ht=>HNI.out t (by rw [List.take_of_length_le (Nat.le_refl _)];exact ht)));go_wp2_with fail;go_ret;exact⟨by rw [HE.out] <;> rfl,HX.out⟩
theorem Qy2(g:Nat)(lb:Array Value)(eg:∀args w,(callFunc g args).run Tryz.prog w=.ok (.enter g args) w)(p:Nat->Bool)(v:Value)(l:List (Nat))(w:World)(h:Yi w v l)
 (hp:∀(W:World) (s:Nat),s∈l->Ext w W->Calls Tryz.prog g (#[.int .u64 (s:Int)]++lb) W fun e w'=>e=.returned (.bool (p s))/\Ext W w'):
 Calls Tryz.prog 71 #[v,.func (.func g) #[] lb] w fun e w'=>e=.returned (.bool (l.any p))/\Ext w w':=by
 have HI:=Qq (Qdm g lb eg p v l w h hp);have HE:=Qq (Mr p l);clear hp h;obtain⟨z,hz⟩:∃z,z=Bo p l:=⟨_,rfl⟩;rw [<-hz]at HI HE;clear hz;go_enter Tryz.func71,Tryz.ntmps71;go_wp2_with(refine HI.out.mono ?_;rintro e w1 ⟨rfl,hx⟩);go_ret;exact⟨by rw [<-HE.out] <;> rfl,hx⟩
theorem Qdf(g:Nat)(lb:Array Value)(eg:∀args w,(callFunc g args).run Tryz.prog w=.ok (.enter g args) w)(p:List Nat->Bool)(v:Value)(l:List (List Nat))(w:World)(h:Tz w v l)
 (hp:∀(W:World) (u:Value) (s:List Nat),s∈l->Ext w W->Yi W u s->Calls Tryz.prog g (#[u]++lb) W fun e w'=>e=.returned (.bool (p s))/\Ext W w'):
 Calls Tryz.prog 46 #[v,.func (.func g) #[] lb] w fun e w'=>e=.returned (.int .i64 (Bo p l))/\Ext w w':=by
 obtain⟨A,c,rfl,hcap,hmax,HR⟩:=Mk h;unfold maxLen at hmax;have HP:=Qq hp;clear h hp;go_enter Tryz.func46,Tryz.ntmps46;go_wp2_with fail;go_loopw [5,8] (fun _ i wr=>∃k:Nat,k<=l.length/\i=.int .i64 (k:Int)/\Hid (∀t∈l.take k,p t=false)/\Hid (Ext w wr)) (fun _ i _=>l.length - (intOf i).toNat)
 case atStart=>exact⟨0,Nat.zero_le _,rfl,Qq (by simp),Qq Qz⟩
 case round =>
  obtain⟨k,hk,rfl,HNI,HX⟩:=hrel;by_cases hlt2:k < l.length
  ·obtain⟨s,hs⟩:∃s,l[k]?=some s:=⟨_,Qv hlt2⟩;obtain⟨ad,u,rfl,hb1,hu,hc1⟩:=HR.out k hlt2;rw [Qk,hs,Option.getD_some]at hc1;have a0:wr.cell? (ad.add k)=some u:=(HX.out.cell (p:=ad.add k) (Qj hb1)).trans hu;have HF:=Qq (show Yi w u s from hc1);clear hc1 hu;have HA:=Qq hs;have hk1:(k:Int) < (l.length:Int):=by omega
   clear hs;cases hps:p s
   ·have HT:Hid (∀t∈l.take (k+1),p t=false):=Qq (by
     rw [Ti HA.out];intro t ht;rcases List.mem_append.1 ht with ht|ht
     ·exact HNI.out t ht
     rw [List.mem_singleton.1 ht];exact hps)
    go_wp2_with(refine(HP.out _ u s (Qjt HA.out) HX.out (HF.out.ext HX.out)).mono ?_;rintro e w1 ⟨rfl,hx⟩;rw [hps]);go_roundw
    case rel=>exact⟨k+1,by omega,by go_num,HT,Qq (HX.out.trans hx)⟩
    case measure=>simp [intOf];omega
   have HE:=Qq (Mt (p:=p) HA.out hps HNI.out);go_wp2_with(refine(HP.out _ u s (Qjt HA.out) HX.out (HF.out.ext HX.out)).mono ?_;rintro e w1 ⟨rfl,hx⟩;rw [hps]);go_ret;exact⟨by rw [HE.out] <;> rfl,HX.out.trans hx⟩
  obtain rfl:l.length=k:=by omega
  have HE:=Qq (Rd (p:=p) (l:=l) (fun t ht=>HNI.out t (by rw [List.take_of_length_le (Nat.le_refl _)];exact ht)));go_wp2_with fail;go_ret;exact⟨by rw [HE.out] <;> rfl,HX.out⟩
theorem Hc(g:Nat)(lb:Array Value)(eg:∀args w,(callFunc g args).run Tryz.prog w=.ok (.enter g args) w)(p:List Nat->Bool)(v:Value)(l:List (List Nat))(w:World)(h:Tz w v l)
 (hp:∀(W:World) (u:Value) (s:List Nat),s∈l->Ext w W->Yi W u s->Calls Tryz.prog g (#[u]++lb) W fun e w'=>e=.returned (.bool (p s))/\Ext W w'):
 Calls Tryz.prog 25 #[v,.func (.func g) #[] lb] w fun e w'=>e=.returned (.bool (l.any p))/\Ext w w':=by
 have HI:=Qq (Qdf g lb eg p v l w h hp);have HE:=Qq (Mr p l);clear hp h;obtain⟨z,hz⟩:∃z,z=Bo p l:=⟨_,rfl⟩;rw [<-hz]at HI HE;clear hz;go_enter Tryz.func25,Tryz.ntmps25;go_wp2_with(refine HI.out.mono ?_;rintro e w1 ⟨rfl,hx⟩);go_ret;exact⟨by rw [<-HE.out] <;> rfl,hx⟩
theorem Qna(B:Nat)(s n:Nat)(w:World)(hn:n<=64)(hs:Qi s)(hb:w.cell? ⟨B,0,none⟩=some (.int .i64 (n:Int))):
 Calls Tryz.prog 72 #[.int .u64 (s:Int),.pointer (some ⟨B,0,none⟩)] w fun e w'=>e=.returned (.bool (!decide (s < 2^n)))/\Ext w w':=by
 have HO:=Qq (Qg6 (n:=n) hs hn);clear hs;go_enter Tryz.func72,Tryz.ntmps72;go_wp2_with(go_at_call 73;refine(Qbn n hn _).mono ?_;rintro e w3 ⟨rfl,rfl⟩);go_ret;exact⟨by rw [<-HO.out] <;> rfl,Qz⟩
theorem Qr5(B:Nat)(v:Value)(l:List Nat)(n:Nat)(w:World)(h:Yi w v l)(hw:∀s∈l,Qi s)(hn:n<=64)(hB:B < w.heap.size)(hb:w.cell? ⟨B,0,none⟩=some (.int .i64 (n:Int))):
 Calls Tryz.prog 71 #[v,.func (.func 72) #[] #[.pointer (some ⟨B,0,none⟩)]] w fun e w'=>e=.returned (.bool (Jd l n))/\Ext w w':=by
 have eg:∀args w,(callFunc 72 args).run Tryz.prog w=.ok (.enter 72 args) w:=fun _ _=>rfl
 refine(Qy2 72 #[.pointer (some ⟨B,0,none⟩)] eg (fun s=> !decide (s < 2^n)) v l w h ?_).mono ?_
 ·intro W s hs hx;exact Qna B s n W hn (hw s hs) ((hx.cell (p:=⟨B,0,none⟩) hB).trans hb)
 rintro e w1 ⟨rfl,hx⟩;exact⟨rfl,hx⟩
theorem Ch(v:Value)(l:List Nat)(n:Nat)(w:World)(h:Yi w v l)(hw:∀s∈l,Qi s)(hn:n<=64):
 Calls Tryz.prog 44 #[v,.int .i64 (n:Int)] w fun e w'=>e=.returned (.bool (Jd l n))/\Ext w w':=by
 have HL:=Qq h;have HW:=Qq hw;clear h hw;go_enter Tryz.func44,Tryz.ntmps44;go_wp2_with(go_at_call 71;refine(Qr5 w.heap.size _ l n _ (HL.out.ext (by repeat(first|exact Qz|assumption|apply Ext.alloc|apply Ext.drew))) HW.out hn (by simp) (by simp)).mono ?_;rintro e w1 ⟨rfl,hx⟩;have HX:=Qq (((Ext.refl w).alloc _).trans hx);clear hx);go_ret;exact⟨rfl,HX.out⟩
theorem Qx4(B:Nat)(v:Value)(l:List Nat)(n:Nat)(w:World)(h:Yi w v l)(hw:∀s∈l,Qi s)(hn:n<=64)(_hB:B < w.heap.size)(hb:w.cell? ⟨B,0,none⟩=some (.int .i64 (n:Int))):
 Calls Tryz.prog 45 #[v,.pointer (some ⟨B,0,none⟩)] w fun e w'=>e=.returned (.bool (Jd l n))/\Ext w w':=by
 have HL:=Qq h;have HW:=Qq hw;clear h hw;go_enter Tryz.func45,Tryz.ntmps45;go_wp2_with(go_at_call 44;refine(Ch _ l n _ (HL.out.ext (by repeat(first|exact Qz|assumption|apply Ext.alloc|apply Ext.drew))) HW.out hn).mono ?_;rintro e w1 ⟨rfl,hx⟩;have HX:=Qq hx;clear hx);go_ret;exact⟨rfl,HX.out⟩
theorem Ow(B:Nat)(v:Value)(rl:List (List Nat))(n:Nat)(w:World)(h:Tz w v rl)(hw:∀r∈rl,∀s∈r,Qi s)(hn:n<=64)(hB:B < w.heap.size)(hb:w.cell? ⟨B,0,none⟩=some (.int .i64 (n:Int))):
 Calls Tryz.prog 25 #[v,.func (.func 45) #[] #[.pointer (some ⟨B,0,none⟩)]] w fun e w'=>e=.returned (.bool (rl.any fun r=>Jd r n))/\Ext w w':=by
 have eg:∀args w,(callFunc 45 args).run Tryz.prog w=.ok (.enter 45 args) w:=fun _ _=>rfl
 refine(Hc 45 #[.pointer (some ⟨B,0,none⟩)] eg (fun r=>Jd r n) v rl w h ?_).mono ?_
 ·intro W u s hs hx hu;exact Qx4 B u s n W hu (hw s hs) hn (Qy hB hx.size) ((hx.cell (p:=⟨B,0,none⟩) hB).trans hb)
 rintro e w1 ⟨rfl,hx⟩;exact⟨rfl,hx⟩
theorem Gj(v:Value)(md:Md)(w:World)(h:MdV w v md)(hok:md.ok):
 Calls Tryz.prog 24 #[v] w fun e w'=>e=.returned (.int .i64 (Zd md))/\Ext w w':=by
 obtain⟨vv,vr,rfl,hv,hr⟩:=h;have HV:=Qq hv;have HRS:=Qq hr;have HOK:=Qq hok;obtain⟨Av,cv,rfl,_⟩:=hv;obtain⟨Ar,cr,rfl,_,_,HR⟩:=Mk hr;obtain⟨z,hz⟩:∃z,z=md.n:=⟨_,rfl⟩;have HZ:=Qq hz;rw [<-hz];clear hr hok hz;by_cases h1:z < 1
 ·have HE:=Qq (show Zd md=2 by unfold Zd;rw [<-HZ.out,if_pos (.inl h1)]);go_enter Tryz.func24,Tryz.ntmps24;go_wp2_with fail;go_ret;exact⟨by rw [HE.out] <;> rfl,(by repeat(first|exact Qz|assumption|apply Ext.alloc|apply Ext.drew))⟩
 by_cases h2:64 < z
 ·have HE:=Qq (show Zd md=2 by unfold Zd;rw [<-HZ.out,if_pos (.inr h2)]);go_enter Tryz.func24,Tryz.ntmps24;go_wp2_with fail;go_ret;exact⟨by rw [HE.out] <;> rfl,(by repeat(first|exact Qz|assumption|apply Ext.alloc|apply Ext.drew))⟩
 by_cases h3:4 < md.rel.length
 ·have HE:=Qq (show Zd md=8 by unfold Zd;rw [<-HZ.out,if_neg (by omega),if_pos (.inl h3)]);have h3':(4:Int) < (md.rel.length:Int):=by omega
  clear h3;go_enter Tryz.func24,Tryz.ntmps24;go_wp2_with fail;go_ret;exact⟨by rw [HE.out] <;> rfl,(by repeat(first|exact Qz|assumption|apply Ext.alloc|apply Ext.drew))⟩
 by_cases h4:8 < md.val.length
 ·have HE:=Qq (show Zd md=8 by unfold Zd;rw [<-HZ.out,if_neg (by omega),if_pos (.inr h4)]);have h4':(8:Int) < (md.val.length:Int):=by omega
  have h3':¬(4:Int) < (md.rel.length:Int):=by omega
  clear h3 h4;go_enter Tryz.func24,Tryz.ntmps24;go_wp2_with fail;go_ret;exact⟨by rw [HE.out] <;> rfl,(by repeat(first|exact Qz|assumption|apply Ext.alloc|apply Ext.drew))⟩
 have h4':¬(8:Int) < (md.val.length:Int):=by omega
 have h3':¬(4:Int) < (md.rel.length:Int):=by omega
 obtain⟨n,hnz⟩:∃n:Nat,(n:Int)=z:=⟨z.toNat,by omega⟩;subst hnz;have hn64:n<=64:=by omega
 have hn1:0 < n:=by omega
 have HC:=Qq (show Zd md=if md.rel.any (fun r=> !decide (r.length=n))then 3 else if Jd md.val n then 2 else if md.rel.any (fun r=>Jd r n)then 2 else 0 by
  unfold Zd;rw [<-HZ.out,if_neg (by omega),if_neg (by omega),Int.toNat_natCast];simp only [Int.natCast_inj])
 obtain⟨rl,hrl⟩:∃l,l=md.rel:=⟨_,rfl⟩;have HRE:=Qq hrl;rw [<-hrl]at HR HRS h3' h3 HC;rw [<-hrl];clear h1 h2 h4 hrl;go_enter Tryz.func24,Tryz.ntmps24;go_wp2_with fail;go_loopw [26] (fun v wr=>∃k:Nat,v=.int .i64 (k:Int)/\k<=rl.length/\wr=w.alloc (.cells #[.int .i64 (n:Int),.slice Av md.val.length cv,.slice Ar rl.length cr] 28)/\Hid (∀j,j < k->decide ((rl.getD j []).length=n)=true)) (fun v _=>rl.length - (intOf v).toNat)
 case atStart=>exact⟨0,rfl,Nat.zero_le _,rfl,Qq fun j hj=>absurd hj (by omega)⟩
 case round =>
  obtain⟨k,rfl,hk,rfl,HJ⟩:=hrel;by_cases hlt2:k < rl.length
  ·have hk1:(k:Int) < (rl.length:Int):=by omega
   obtain⟨ad,u,rfl,hb1,hu,hc1⟩:=HR.out k hlt2;obtain⟨Au,cu,rfl,_⟩:=hc1;have a0:=(((Ext.refl w).alloc (.cells #[.int .i64 (n:Int),.slice Av md.val.length cv,.slice (some ad) rl.length cr] 28)).cell (p:=ad.add k) (Qj hb1)).trans hu;clear hu;obtain⟨q,hq⟩:∃q,q=(rl.getD k []).length:=⟨_,rfl⟩;have HNX:=Qq (show decide (q=n)=true->∀j,j < k+1->decide ((rl.getD j []).length=n)=true from fun h=>Qmt (P:=fun j=>decide ((rl.getD j []).length=n)=true) HJ.out (by rw [<-hq];exact h));have HHT:=Qq (show decide (q=n)=false->rl.any (fun r=> !decide (r.length=n))=true from fun h=>Qtl hlt2 (by rw [<-hq,h];rfl));rw [<-hq]at a0
   clear hq;by_cases hd:q=n
   ·have HP:=Qq (HNX.out (decide_eq_true hd));subst hd;have hne:((q:Int) !=(q:Int))=false:=by simp
    go_wp2_with fail;go_roundw
    case rel=>exact⟨k+1,by go_num,by omega,by first|trivial|rfl,HP⟩
    case measure=>simp [intOf];omega
   have HE:=Qq (show Zd md=3 by rw [HC.out,if_pos (HHT.out (decide_eq_false hd))]);have hne:((q:Int) !=(n:Int))=true:=by simp only [bne_iff_ne,ne_eq,Int.natCast_inj];exact hd
   go_wp2_with fail;go_ret;exact⟨by rw [HE.out] <;> rfl,(by repeat(first|exact Qz|assumption|apply Ext.alloc|apply Ext.drew))⟩
  obtain rfl:rl.length=k:=by omega
  have HC2:=Qq (show Zd md=if Jd md.val n then 2 else if rl.any (fun r=>Jd r n)then 2 else 0 by
   rw [HC.out,if_neg (by rw [Qn5 (P:=fun r=> !decide (r.length=n)) (fun j hj=>by rw [HJ.out j hj];rfl)];simp)])
  clear HC HJ;have hcb:(w.alloc (.cells #[.int .i64 (n:Int),.slice Av md.val.length cv,.slice Ar rl.length cr] 28)).cell? ⟨w.heap.size,0,none⟩=some (.int .i64 (n:Int)):=by simp
  have HCB:=Qq hcb;clear hcb;go_upto_region 11 with(fail);cases hb:Jd md.val n
  ·have HB:=Qq hb;cases ha:rl.any (fun r=>Jd r n)
   ·have HE:=Qq (show Zd md=0 by rw [HC2.out,HB.out,ha];rfl);have HA:=Qq ha;clear ha hb;go_wp2_with(first|(go_at_call 44;refine(Ch _ md.val n _ (HV.out.ext (by repeat(first|exact Qz|assumption|apply Ext.alloc|apply Ext.drew))) HOK.out.val hn64).mono ?_;rintro e w1 ⟨rfl,hx⟩;rw [HB.out];have HX:=Qq (((Ext.refl w).alloc _).trans hx);have HX1:=Qq hx;have hc2:w1.cell? ⟨w.heap.size,2,none⟩=some (.slice Ar rl.length cr):=(hx.cell (p:=⟨w.heap.size,2,none⟩) (by simp)).trans (by simp);clear hx)|(go_at_call 25;refine(Ow w.heap.size _ rl n _ (HRS.out.ext HX.out) (by rw [HRE.out];exact HOK.out.rel) hn64 (Qy (by simp) HX1.out.size) ((HX1.out.cell (p:=⟨w.heap.size,0,none⟩) (by simp)).trans HCB.out)).mono ?_;rintro e w2 ⟨rfl,hx⟩;rw [HA.out];have HX2:=Qq hx;clear hx))
    go_ret;exact⟨by rw [HE.out] <;> rfl,HX.out.trans HX2.out⟩
   have HE:=Qq (show Zd md=2 by rw [HC2.out,HB.out,ha];rfl);have HA:=Qq ha;clear ha hb;go_wp2_with(first|(go_at_call 44;refine(Ch _ md.val n _ (HV.out.ext (by repeat(first|exact Qz|assumption|apply Ext.alloc|apply Ext.drew))) HOK.out.val hn64).mono ?_;rintro e w1 ⟨rfl,hx⟩;rw [HB.out];have HX:=Qq (((Ext.refl w).alloc _).trans hx);have HX1:=Qq hx;have hc2:w1.cell? ⟨w.heap.size,2,none⟩=some (.slice Ar rl.length cr):=(hx.cell (p:=⟨w.heap.size,2,none⟩) (by simp)).trans (by simp);clear hx)|(go_at_call 25;refine(Ow w.heap.size _ rl n _ (HRS.out.ext HX.out) (by rw [HRE.out];exact HOK.out.rel) hn64 (Qy (by simp) HX1.out.size) ((HX1.out.cell (p:=⟨w.heap.size,0,none⟩) (by simp)).trans HCB.out)).mono ?_;rintro e w2 ⟨rfl,hx⟩;rw [HA.out];have HX2:=Qq hx;clear hx))
   go_ret;exact⟨by rw [HE.out] <;> rfl,HX.out.trans HX2.out⟩
  have HE:=Qq (show Zd md=2 by rw [HC2.out,hb];rfl);have HB:=Qq hb;clear hb;go_wp2_with(go_at_call 44;refine(Ch _ md.val n _ (HV.out.ext (by repeat(first|exact Qz|assumption|apply Ext.alloc|apply Ext.drew))) HOK.out.val hn64).mono ?_;rintro e w1 ⟨rfl,hx⟩;rw [HB.out];have HX:=Qq (((Ext.refl w).alloc _).trans hx);clear hx);go_ret;exact⟨by rw [HE.out] <;> rfl,HX.out⟩
def Ck:Prop:=∀(v:Value) (l:List Nat) (q:Int) (w:World),Kx w->Yi w v l->(∀s∈l,Qi s)->Yj l.length l=0->0 < l.length->(q=1\/q=2\/q=4\/q=5)->
 Calls Tryz.prog 50 #[v,.int .i64 q] w fun e w'=>e=.returned (.bool (Xa q l))/\Ext w w'
theorem Qmn(HSS:Ck)(B:Nat)(v:Value)(l:List Nat)(q:Int)(w:World)(hT:Kx w)(h:Yi w v l)(hw:∀s∈l,Qi s)(hck:Yj l.length l=0)(h0:0 < l.length)(hq:q=1\/q=2\/q=4\/q=5)(hb:w.cell? ⟨B,0,none⟩=some v):
 Calls Tryz.prog 49 #[.int .i64 q,.pointer (some ⟨B,0,none⟩)] w fun e w'=>e=.returned (.bool (!Xa q l))/\Ext w w':=by
 have HS:=Qq (HSS v l q w hT h hw hck h0 hq);obtain⟨A,c,rfl,_⟩:=h;obtain⟨pb,hpb⟩:∃b,b=Xa q l:=⟨_,rfl⟩;rw [<-hpb]at HS⊢;clear HSS hT hw hck h0 hq hpb;go_enter Tryz.func49,Tryz.ntmps49;go_wp2_with fail;refine HS.out.mono ?_;rintro e w1 ⟨rfl,hx⟩;have HX:=Qq hx;clear hx;go_wp2_with fail;go_ret;exact⟨rfl,HX.out⟩
noncomputable def Ds (lg:Int) (l:List Nat):Bool:= !((Dk lg).any fun q=> !Xa q l)
theorem Qj1 {lg:Int} {l:List Nat} :Ds lg l=true↔Wg lg l:=by
 unfold Ds Wg;rw [Bool.not_eq_true',List.any_eq_false];refine forall_congr' fun q=>imp_congr_right fun _=> ?_
 unfold Xa;simp
theorem Qc4(HSS:Ck)(v:Value)(l:List Nat)(lg:Int)(w:World)(hT:Kx w)(h:Yi w v l)(hw:∀s∈l,Qi s)(hck:Yj l.length l=0)(h0:0 < l.length)(hlg:0<=lg/\lg<=6):
 Calls Tryz.prog 27 #[v,.int .i64 lg] w fun e w'=>e=.returned (.bool (Ds lg l))/\Ext w w':=by
 have H:=Qq h;have HT:=Qq hT;have HW:=Qq hw;have HCK:=Qq hck;have HP:=Qq (show p15 lg=0 from if_pos hlg);have HGB:=Qq (show Ds lg l= !((Dk lg).any fun q=> !Xa q l)from rfl);have HC:=Qq (fun(B:Nat) (vp:Value) (w:World) (hT:Kx w) (hi:Zi w vp (Dk lg)) (hl:Yi w v l) (hB:B < w.heap.size) (hb:w.cell? ⟨B,0,none⟩=some v)=>
  Qji 49 #[.pointer (some ⟨B,0,none⟩)] (fun _ _=>rfl) (fun q=> !Xa q l) vp (Dk lg) w hi
   (fun W q hq hx=>Qmn HSS B v l q W (hT.ext hx) (hl.ext hx) hw hck h0 (Qrt hq) ((hx.cell (p:=⟨B,0,none⟩) hB).trans hb)))
 obtain⟨A,c,rfl,_⟩:=h;obtain⟨pb,hpb⟩:∃b,b=(Dk lg).any fun q=> !Xa q l:=⟨_,rfl⟩
 rw [<-hpb]at HC HGB;clear HSS hT hw hck hlg hpb;go_enter Tryz.func27,Tryz.ntmps27;go_wp2_with(first|(go_at_call 23;refine(Th lg _).mono ?_;rintro e w1 ⟨vp,rfl,hx1,hvp⟩;rw [HP.out];have HX1:=Qq (((Ext.refl w).alloc _).trans hx1);have HV:=Qq (hvp.out HP.out);have hc1:w1.cell? ⟨w.heap.size,0,none⟩=some (.slice A l.length c):=(hx1.cell (p:=⟨w.heap.size,0,none⟩) (by simp)).trans (by simp);have hb1:w.heap.size < w1.heap.size:=Qy (by simp) hx1.size;clear hx1 hvp)|(go_at_call 47;refine(Xx _ l _ (H.out.ext HX1.out) HW.out).mono ?_;rintro e w2 ⟨rfl,hx2⟩;rw [HCK.out];have HX2:=Qq (HX1.out.trans hx2);have HV2:=Qq (HV.out.ext hx2);have hc2:=(hx2.cell (p:=⟨w.heap.size,0,none⟩) hb1).trans hc1;have hb2:=Qy hb1 hx2.size;clear hx2)|(go_at_call 48;refine(HC.out w.heap.size _ _ (HT.out.ext HX2.out) HV2.out (H.out.ext HX2.out) hb2 hc2).mono ?_;rintro e w3 ⟨rfl,hx3⟩;have HX3:=Qq (HX2.out.trans hx3);clear hx3))
 go_ret;exact⟨by rw [HGB.out] <;> rfl,HX3.out⟩
theorem Qca(HSS:Ck)(B:Nat)(v:Value)(l:List Nat)(lg:Int)(w:World)(hT:Kx w)(h:Yi w v l)(hw:∀s∈l,Qi s)(hck:Yj l.length l=0)(h0:0 < l.length)(hlg:0<=lg/\lg<=6)(hb:w.cell? ⟨B,0,none⟩=some (.int .i64 lg)):
 Calls Tryz.prog 26 #[v,.pointer (some ⟨B,0,none⟩)] w fun e w'=>e=.returned (.bool (!Ds lg l))/\Ext w w':=by
 have HS:=Qq (Qc4 HSS v l lg w hT h hw hck h0 hlg);obtain⟨A,c,rfl,_⟩:=h;obtain⟨pb,hpb⟩:∃b,b=Ds lg l:=⟨_,rfl⟩;rw [<-hpb]at HS⊢;clear HSS hT hw hck h0 hlg hpb;go_enter Tryz.func26,Tryz.ntmps26;go_wp2_with fail;refine HS.out.mono ?_;rintro e w1 ⟨rfl,hx⟩;have HX:=Qq hx;clear hx;go_wp2_with fail;go_ret;exact⟨rfl,HX.out⟩
noncomputable def inB (md:Md) (lg:Int):Bool:= !(md.rel.any fun r=> !Ds lg r)
theorem Qex(HSS:Ck)(vm:Value)(md:Md)(lg:Int)(w:World)(hT:Kx w)(hm:MdV w vm md)(hok:md.ok)(hck:Zd md=0)(hlg:0<=lg/\lg<=6):
 Calls Tryz.prog 9 #[vm,.int .i64 lg] w fun e w'=>e=.returned (.bool (inB md lg))/\Ext w w':=by
 have HM:=Qq hm;have HT:=Qq hT;have HOK:=Qq hok;have HCK:=Qq hck;have HP:=Qq (show p15 lg=0 from if_pos hlg);have HGB:=Qq (show inB md lg= !(md.rel.any fun r=> !Ds lg r)from rfl);have hz:=Vk hck;have hlow:=Qfg hck;have HR:Hid (∀r∈md.rel,Yj r.length r=0/\0 < r.length):=Qq fun r hr=>by
  have hl:=hz.2.2.2.2.1 r hr;exact⟨Lz (by omega) (by omega) (hlow r hr),by omega⟩
 have HC:=Qq (fun(B:Nat) (vp:Value) (w:World) (hT:Kx w) (hi:Tz w vp md.rel) (hB:B < w.heap.size) (hb:w.cell? ⟨B,0,none⟩=some (.int .i64 lg))=>
  Hc 26 #[.pointer (some ⟨B,0,none⟩)] (fun _ _=>rfl) (fun r=> !Ds lg r) vp md.rel w hi
   (fun W u r hr hx hu=>Qca HSS B u r lg W (hT.ext hx) hu (hok.rel r hr) (HR.out r hr).1 (HR.out r hr).2 hlg ((hx.cell (p:=⟨B,0,none⟩) hB).trans hb)))
 obtain⟨vv,vr,rfl,hv,hr⟩:=hm;have HRR:=Qq hr;obtain⟨pb,hpb⟩:∃b,b=(md.rel.any fun r=> !Ds lg r):=⟨_,rfl⟩;rw [<-hpb]at HC HGB;clear HSS hT hok hck hz hlow hlg hpb hv hr;go_enter Tryz.func9,Tryz.ntmps9;go_wp2_with(first|(go_at_call 23;refine(Th lg _).mono ?_;rintro e w1 ⟨vp,rfl,hx1,hvp⟩;rw [HP.out];have HX1:=Qq ((((Ext.refl w).alloc _).alloc _).trans hx1);have hm0:w1.cell? ⟨w.heap.size,0,none⟩=some (.int .i64 md.n):=(hx1.cell (p:=⟨w.heap.size,0,none⟩) (by simp;omega)).trans (by simp);have hm1:w1.cell? ⟨w.heap.size,1,none⟩=some vv:=(hx1.cell (p:=⟨w.heap.size,1,none⟩) (by simp;omega)).trans (by simp);have hm2:w1.cell? ⟨w.heap.size,2,none⟩=some vr:=(hx1.cell (p:=⟨w.heap.size,2,none⟩) (by simp;omega)).trans (by simp);have hl0:w1.cell? ⟨w.heap.size+1,0,none⟩=some (.int .i64 lg):=(hx1.cell (p:=⟨w.heap.size+1,0,none⟩) (by simp)).trans (by simp);have hb1:w.heap.size+1 < w1.heap.size:=Qy (by simp) hx1.size;clear hx1 hvp)|(go_at_call 24;refine(Gj _ md _ (HM.out.ext HX1.out) HOK.out).mono ?_;rintro e w2 ⟨rfl,hx2⟩;rw [HCK.out];have HX2:=Qq (HX1.out.trans hx2);have hc2:=(hx2.cell (p:=⟨w.heap.size,2,none⟩) (by show w.heap.size < _;omega)).trans hm2;have hl2:=(hx2.cell (p:=⟨w.heap.size+1,0,none⟩) hb1).trans hl0;have hb2:=Qy hb1 hx2.size;clear hx2)|(go_at_call 25;refine(HC.out (w.heap.size+1) _ _ (HT.out.ext HX2.out) (HRR.out.ext HX2.out) hb2 hl2).mono ?_;rintro e w3 ⟨rfl,hx3⟩;have HX3:=Qq (HX2.out.trans hx3);clear hx3))
 go_ret;exact⟨by rw [HGB.out] <;> rfl,HX3.out⟩
theorem Qtb {md:Md} {lg:Int} :inB md lg=true↔∀r∈md.rel,Wg lg r:=by
 unfold inB;rw [Bool.not_eq_true',List.any_eq_false];refine forall_congr' fun r=>imp_congr_right fun _=> ?_
 rw [<-Qj1];cases Ds lg r <;> simp
theorem Ql5 {md:Md} {lg:Int}(hck:Zd md=0)(hlg:0<=lg/\lg<=6)(h:inB md lg=true):Qze md lg:=by
 exact⟨hlg,hck,Qtb.1 h⟩
theorem Ql0:Ck:=by
 intro v l q w hT h hw hck _ hq;rcases hq with rfl|rfl|rfl|rfl
 ·exact Qti v l w h hw hck
 ·exact Ql8 v l w h hw hck
 ·exact Qt7 v l w hT h hw hck
 exact Qth v l w hT h hw hck
theorem Qcs(vm:Value)(md:Md)(lg:Int)(w:World)(hT:Kx w)(hm:MdV w vm md)(hok:md.ok)(hck:Zd md=0)(hlg:0<=lg/\lg<=6):
 Calls Tryz.prog 9 #[vm,.int .i64 lg] w fun e w'=>e=.returned (.bool (inB md lg))/\Ext w w':=Qex Ql0 vm md lg w hT hm hok hck hlg
theorem Qn7(vm:Value)(md:Md)(lg:Int)(w:World)(hm:MdV w vm md)(hlg:¬(0<=lg/\lg<=6)):
 Calls Tryz.prog 9 #[vm,.int .i64 lg] w fun e w'=>e=.returned (.bool false)/\Ext w w':=by
 have HP:=Qq (show p15 lg=1 from if_neg hlg);obtain⟨vv,vr,rfl,hv,hr⟩:=hm;clear hlg hv hr;go_enter Tryz.func9,Tryz.ntmps9;go_wp2_with(go_at_call 23;refine(Th lg _).mono ?_;rintro e w1 ⟨vp,rfl,hx1,hvp⟩;rw [HP.out];have HX1:=Qq ((((Ext.refl w).alloc _).alloc _).trans hx1);clear hx1 hvp);go_ret;exact⟨rfl,HX1.out⟩
noncomputable def Wx (md:Md) (lg:Int):Bool:=decide (0<=lg/\lg<=6)&&inB md lg
theorem Qnp(vm:Value)(md:Md)(lg:Int)(w:World)(hT:Kx w)(hm:MdV w vm md)(hok:md.ok)(hck:Zd md=0):
 Calls Tryz.prog 9 #[vm,.int .i64 lg] w fun e w'=>e=.returned (.bool (Wx md lg))/\Ext w w':=by
 unfold Wx;by_cases h:0<=lg/\lg<=6
 ·rw [decide_eq_true h,Bool.true_and];exact Qcs vm md lg w hT hm hok hck h
 rw [decide_eq_false h,Bool.false_and];exact Qn7 vm md lg w hm h
theorem Qdh {md:Md} {lg:Int}(hck:Zd md=0)(h:Wx md lg=true):Qze md lg:=by
 unfold Wx at h;rw [Bool.and_eq_true]at h;exact Ql5 hck (of_decide_eq_true h.1) h.2
theorem Qm4(vm:Value)(md:Md)(lg:Int)(w:World)(hm:MdV w vm md)(hok:md.ok)(hlg:0<=lg/\lg<=6)(hck:Zd md≠0):
 Calls Tryz.prog 9 #[vm,.int .i64 lg] w fun e w'=>e=.returned (.bool false)/\Ext w w':=by
 have HM:=Qq hm;have HOK:=Qq hok;have HP:=Qq (show p15 lg=0 from if_pos hlg);obtain⟨ck,hcc⟩:∃z,z=Zd md:=⟨_,rfl⟩;have HCC:=Qq hcc;have hck1:(ck==0)=false:=by rw [beq_eq_false_iff_ne,hcc];exact hck
 obtain⟨vv,vr,rfl,hv,hr⟩:=hm;clear hok hlg hck hv hr hcc;go_enter Tryz.func9,Tryz.ntmps9;go_wp2_with(first|(go_at_call 23;refine(Th lg _).mono ?_;rintro e w1 ⟨vp,rfl,hx1,hvp⟩;rw [HP.out];have HX1:=Qq ((((Ext.refl w).alloc _).alloc _).trans hx1);have hm0:w1.cell? ⟨w.heap.size,0,none⟩=some (.int .i64 md.n):=(hx1.cell (p:=⟨w.heap.size,0,none⟩) (by simp;omega)).trans (by simp);have hm1:w1.cell? ⟨w.heap.size,1,none⟩=some vv:=(hx1.cell (p:=⟨w.heap.size,1,none⟩) (by simp;omega)).trans (by simp);have hm2:w1.cell? ⟨w.heap.size,2,none⟩=some vr:=(hx1.cell (p:=⟨w.heap.size,2,none⟩) (by simp;omega)).trans (by simp);have hb1:w.heap.size+1 < w1.heap.size:=Qy (by simp) hx1.size;clear hx1 hvp)|(go_at_call 24;refine(Gj _ md _ (HM.out.ext HX1.out) HOK.out).mono ?_;rintro e w2 ⟨rfl,hx2⟩;rw [<-HCC.out];have HX2:=Qq (HX1.out.trans hx2);clear hx2))
 go_ret;exact⟨rfl,HX2.out⟩
noncomputable def inG (md:Md) (lg:Int):Bool:=decide (Zd md=0)&&Wx md lg
theorem Qfd(vm:Value)(md:Md)(lg:Int)(w:World)(hT:Kx w)(hm:MdV w vm md)(hok:md.ok):
 Calls Tryz.prog 9 #[vm,.int .i64 lg] w fun e w'=>e=.returned (.bool (inG md lg))/\Ext w w':=by
 unfold inG;by_cases hc:Zd md=0
 ·rw [decide_eq_true hc,Bool.true_and];exact Qnp vm md lg w hT hm hok hc
 rw [decide_eq_false hc,Bool.false_and];by_cases h:0<=lg/\lg<=6
 ·exact Qm4 vm md lg w hm hok h hc
 exact Qn7 vm md lg w hm h
theorem Qt3 {md:Md} {lg:Int}(h:inG md lg=true):Zd md=0/\Qze md lg:=by
 unfold inG at h;rw [Bool.and_eq_true]at h;have hc:=of_decide_eq_true h.1;exact⟨hc,Qdh hc h.2⟩
def Qqk(r:List Nat)(s:Nat):Nat:=if Yj r.length r=0 then Yq (Zo r.length) (Kd r r.length (Zo 64^^^s))else 0
theorem Qf2 {s:Nat}(hs:Qi s):Qi (Zo 64^^^s):=Qxt (Fp (Nat.le_refl _)) hs
theorem Qd7 {s:Nat}(hs:Qi s):bits .xor .u64 IntKind.u64.max (s:Int)=((Zo 64^^^s:Nat):Int):=Qv9 (a:=Zo 64) (Fp (Nat.le_refl _)) hs
theorem Qlw(v:Value)(r:List Nat)(s:Nat)(w:World)(h:Yi w v r)(hw:∀s∈r,Qi s)(hs:Qi s):
 Calls Tryz.prog 92 #[v,.int .u64 (s:Int)] w fun e w'=>e=.returned (.int .u64 ((Qqk r s:Nat):Int))/\Ext w w':=by
 have H:=Qq h;obtain⟨A,c,rfl,_,_,HL⟩:=Fl h;have HWD:=Qq hw;have HS:=Qq (Qf2 hs);have HCO:=Qq (Qd7 hs);clear h hw hs;by_cases hck:Yj r.length r=0
 ·have hn:=Bs hck;have HC:=Qq hck;have HB:=Qq (show Be r (Zo 64^^^s)=Kd r r.length (Zo 64^^^s) by unfold Be;rw [if_pos HC.out]);have HD:=Qq (show Qqk r s=Yq (Zo r.length) (Be r (Zo 64^^^s)) by rw [HB.out];unfold Qqk;rw [if_pos HC.out]);have HAN:=Qq (Xe (a:=Zo r.length) (b:=Be r (Zo 64^^^s)) (Fp hn) (by rw [HB.out];exact Ew hn _));clear hck;go_enter Tryz.func92,Tryz.ntmps92;go_wp2_with(first|(go_at_call 47;refine(Xx _ r _ H.out HWD.out).mono ?_;rintro e w1 ⟨rfl,hx1⟩;rw [HC.out];have HX1:=Qq hx1;clear hx1)|(go_at_call 74;refine(Ht r.length hn _).mono ?_;rintro e w3 ⟨rfl,rfl⟩)|(rw [HCO.out];go_at_call 91;refine(Sx _ r _ _ (H.out.ext HX1.out) HWD.out HS.out).mono ?_;rintro e w4 ⟨rfl,hx4⟩;have HX4:=Qq hx4;clear hx4))
  go_ret;exact⟨by rw [HD.out,<-HAN.out] <;> rfl,HX1.out.trans HX4.out⟩
 have HC:=Qq hck;have HB:=Qq (show Qqk r s=0 by unfold Qqk;rw [if_neg HC.out]);obtain⟨ce,hce⟩:∃z,z=Yj r.length r:=⟨_,rfl⟩;rw [<-hce]at hck;have hne:(ce !=0)=true:=by simpa using hck
 have HCE:=Qq hce;clear hck hce;go_enter Tryz.func92,Tryz.ntmps92;go_wp2_with(go_at_call 47;refine(Xx _ r _ H.out HWD.out).mono ?_;rintro e w1 ⟨rfl,hx1⟩;rw [<-HCE.out];have HX1:=Qq hx1;clear hx1);go_ret;exact⟨by rw [HB.out] <;> rfl,HX1.out⟩
theorem Qgj(v:Value)(r:List Nat)(n c s:Nat)(w:World)(h:Yi w v r)(hw:∀s∈r,Qi s)(hl:r.length=n)(hck:Yj r.length r=0)(hc:Qi c)(hs:Qi s):
 Calls Tryz.prog 95 #[v,.int .u64 ((Zo n:Nat):Int),.int .u64 (c:Int),.int .u64 (s:Int)] w fun e w'=>e=.returned (.int .u64 ((Gx r n c s:Nat):Int))/\Ext w w':=by
 have H:=Qq h;have HWD:=Qq hw;have hn:n<=64:=by rw [<-hl];exact Bs hck
 have HRL:=Qq (Id (r:=r) (n:=n) hl (by
  have:=(Ni (l:=r)).1 (by unfold Na;rw [hck];rfl);rw [hl]at this;exact this.2))
 have HAW:=Qq (Fp hn);have HC:=Qq hc;have HS:=Qq hs;have HBX:=Qq (show ∀m,Be r m=Kd r n m from fun m=>by unfold Be;rw [if_pos hck,hl]);have HA1:=Qq (Xe (Fp hn) hc);clear h hw hck hc hs hl;go_enter Tryz.func95,Tryz.ntmps95;go_wp2_with fail;go_loopw [9] (fun v wr=>∃out:Nat,v=.int .u64 (out:Int)/\Hid (Qi out)/\Hid (Ext w wr)/\Hid ((∀i,(Gx r n c s).testBit i=true->out.testBit i=true)/\∀i,(gfF r n c s out).testBit i=true->out.testBit i=true)) (fun v _=>(intOf v).toNat)
 case atStart=>exact⟨Zo n,rfl,HAW,Qq Qz,Qq ⟨Qkz HRL.out,Qlx HRL.out⟩⟩
 case round =>
  obtain⟨out,rfl,HO,HX,HI⟩:=hrel;have HA2:=Qq (Sp HS.out HO.out);have HA3:=Qq (Sm (a:=Yq (Zo n) c) (b:=s&&&out) (Hm HAW.out) (Qqg HS.out));have HMW:=Qq (show Qi (Yq (Zo n) c|||(s&&&out))from Qfb (Hm HAW.out) (Qqg HS.out));obtain⟨nx,hnx⟩:∃x,x=gfF r n c s out:=⟨_,rfl⟩;have HNX:=Qq hnx;have HBE:=Qq (show Be r (Yq (Zo n) c|||(s&&&out))=nx by rw [HBX.out,hnx];rfl);have HNW:=Qq (show Qi nx by rw [hnx];exact Ew hn _);clear hnx;by_cases hd:nx=out
  ·have heq:((nx:Int)==(out:Int))=true:=by simp [hd]
   have HE:=Qq (Qfp HRL.out (by rw [<-HNX.out];exact hd) HI.out.1);clear hd;go_wp2_with(rw [HA1.out,HA2.out,HA3.out];go_at_call 91;refine(Sx _ r _ _ (H.out.ext HX.out) HWD.out HMW.out).mono ?_;rintro e w4 ⟨rfl,hx4⟩;rw [HBE.out];have HX4:=Qq hx4;clear hx4);go_ret;exact⟨by rw [HE.out] <;> rfl,HX.out.trans HX4.out⟩
  have heq:((nx:Int)==(out:Int))=false:=by simp only [beq_eq_false_iff_ne,ne_eq,Int.natCast_inj];exact hd
  have HLT:=Qq (Qa0 (by rw [HNX.out];exact HI.out.2) hd);clear hd;go_wp2_with(rw [HA1.out,HA2.out,HA3.out];go_at_call 91;refine(Sx _ r _ _ (H.out.ext HX.out) HWD.out HMW.out).mono ?_;rintro e w4 ⟨rfl,hx4⟩;rw [HBE.out];have HX4:=Qq hx4;clear hx4);go_roundw
  case rel=>exact⟨nx,rfl,HNW,Qq (HX.out.trans HX4.out),Qq (by rw [HNX.out];exact⟨Qki HRL.out HI.out.1,Qaa HRL.out HI.out.2⟩)⟩
  case measure=>have:=HLT.out;simp [intOf];omega
theorem Qbo(v:Value)(l:List Nat)(w:World)(h:Yi w v l)(h0:0 < l.length)(h64:l.length<=64):
 Calls Tryz.prog 120 #[v] w fun e w'=>∃u,e=.returned u/\Xj w.heap.size w' u l/\Ext w w':=by
 obtain⟨A,c,rfl,_,_,HL⟩:=Fl h;obtain⟨iU,hiU,hzU0,hzU1,hzU2⟩:=info_parts Qfz;clear h;obtain⟨ad,rfl,hadl,_⟩:=HL.out 0 h0;have HNEW:=Qq (show ∀(j:Nat) u,(uV l)[j]?=some u->(w.alloc (.cells #[] 43)).cell? (ad.add j)=some u from Qnq fun i hi=>by
  obtain⟨ad2,e,_,hc⟩:=HL.out i hi;injection e with e;subst e;exact(((Ext.refl w).alloc _).cell (p:=ad.add i) (Qj hadl)).trans hc)
 have HRE:=Qq (Qne w 43);have q:∀(w:World) (a:Option Addr) (n c n' c':Nat),(binOp .eql 25 (.slice a n c) (.slice none n' c')).run Tryz.prog w=.ok (.bool a.isNone) w:=fun w a n c n' c'=>Lib.run_eql_slice_nil w _ _ a n c n' c' Tryz.underlying25
 obtain⟨n,hn⟩:∃n,n=l.length:=⟨_,rfl⟩;have HN:=Qq hn;rw [<-hn]at h64 h0⊢;have hm1:0+n<=maxLen:=by unfold maxLen;omega
 have hm2:(0+n)*8<=140737488355328:=by omega
 clear hn;go_enter Tryz.func120,Tryz.ntmps120;go_wp2_with(at_builtin;refine wpList_append_own_at _ rfl _ _ 25 rfl w.heap.size 43 iU (.int .u64 0) 1 8 Tryz.underlying25 hiU hzU0 hzU1 hzU2 rfl (by decide) _ 0 [] rfl HRE.out ad n c (uV l) rfl (by rw [Qhi,Nat.mul_one];exact HN.out.symm) HNEW.out (Qa6 l) hm1 hm2 (by simp) ?_);intro v3 w3 hown3 hgrow3 _ _;have HX3:=Qq (show Ext w w3 from((Ext.refl w).alloc _).grown hgrow3 (fun k hk=>by have h2:w.heap.size=k:=Option.some.inj hk;omega));have HM:=Qq (show Xj w.heap.size w3 v3 l by
  unfold Xj;rw [<-HN.out];exact hown3)
 clear hown3 hgrow3;obtain⟨g,cap,rfl,hgl,hgb,_,hcm,_,_⟩:=HM.out.slice (by rw [<-HN.out];exact h0);rw [<-HN.out]at HM⊢;clear hgl;go_wp2_with fail;go_ret;exact⟨_,rfl,HM.out,HX3.out⟩
def Qk2(n:Nat)(meet:Bool):Nat:=if meet then Zo n else 0
def Qqw(rl:List (List Nat))(gn:Nat)(meet:Bool)(n k:Nat):List Nat:=(List.range n).map fun i=>(List.range k).foldl (Da rl gn meet i) (Qk2 n meet)
def Rh(gn k:Nat):Bool:=(List.range k).any fun a=>gn.testBit a
def Nk(rl:List (List Nat))(gn:Nat)(meet:Bool)(n k:Nat):List Nat:=bif Rh gn k then Qqw rl gn meet n k else []
theorem Dz(gn k:Nat):Rh gn (k+1)=(Rh gn k||gn.testBit k):=by
 unfold Rh;rw [List.range_succ,List.any_append];simp
theorem Qc8 {rl:List (List Nat)} {gn n k:Nat} {meet:Bool}(h:gn.testBit k=false):Nk rl gn meet n (k+1)=Nk rl gn meet n k:=by
 unfold Nk;rw [Dz,h,Bool.or_false]
 congr 1
 unfold Qqw;refine List.map_congr_left fun i _=> ?_
 rw [Kr];unfold Da;rw [h];rfl
theorem Qrf {rl:List (List Nat)} {gn n k:Nat} {meet:Bool}(h:Rh gn k=false) {i:Nat} :(List.range k).foldl (Da rl gn meet i) (Qk2 n meet)=Qk2 n meet:=by
 induction k with
 |zero=>rfl
 |succ k ih =>
  rw [Dz,Bool.or_eq_false_iff]at h;rw [Kr,ih h.1];unfold Da;rw [h.2];rfl
theorem Qbf {rl:List (List Nat)} {gn n k:Nat} {meet:Bool}(h:gn.testBit k=true)(hn:Rh gn k=false)(hl:(rl.getD k []).length=n)(hlow:∀s∈rl.getD k [],s < 2^n):Nk rl gn meet n (k+1)=rl.getD k []:=by
 unfold Nk;rw [Dz,h,Bool.or_true];show Qqw rl gn meet n (k+1)=_;refine List.ext_getElem (by rw [hl];unfold Qqw;rw [List.length_map,List.length_range]) fun i h1 h2=> ?_
 simp only [Qqw,List.getElem_map,List.getElem_range];rw [Kr,Qrf hn];unfold Da Qk2;rw [h];have e:(rl.getD k []).getD i 0=(rl.getD k [])[i]:=by rw [Qk,Qv h2];rfl
 rw [e];have hs:=hlow _ (List.getElem_mem h2);cases meet
 ·simp
 simp only [↓reduceIte];refine Nat.eq_of_testBit_eq fun j=> ?_
 rw [Nat.testBit_and,Xm];cases hj:((rl.getD k [])[i]).testBit j
 ·simp
 rw [decide_eq_true (Bd hs hj)];rfl
theorem Qs8 {rl:List (List Nat)} {gn n:Nat} {meet:Bool}(h1:1<=gn)(hg:gn < 2^rl.length):Nk rl gn meet n rl.length=(List.range n).map (Vh rl gn meet n):=by
 have ha:Rh gn rl.length=true:=by
  obtain⟨i,hi⟩:=Nat.exists_testBit_of_ne_zero (show gn≠0 by omega);exact List.any_eq_true.2 ⟨i,List.mem_range.2 (Bd hg hi),hi⟩
 unfold Nk;rw [ha];rfl
theorem Qqs {rl:List (List Nat)} {gn n k:Nat} {meet:Bool}(h:Rh gn k=true):(Nk rl gn meet n k).length=n:=by
 unfold Nk;rw [h];unfold Qqw;simp
def Dq(J:Nat->Nat->Nat)(o r:List Nat)(k:Nat):List Nat:=(List.range o.length).map fun i=>if i < k then J (o.getD i 0) (r.getD i 0)else o.getD i 0
theorem Qrj(J:Nat->Nat->Nat)(o r:List Nat):Dq J o r 0=o:=by
 refine List.ext_getElem (by simp [Dq]) fun i h1 h2=> ?_
 simp only [Dq,List.getElem_map,List.getElem_range];rw [if_neg (Nat.not_lt_zero _),Qk,Qv h2];rfl
theorem Sn(J:Nat->Nat->Nat)(o r:List Nat)(k:Nat):(Dq J o r k).length=o.length:=by simp [Dq]
theorem Qmb {J:Nat->Nat->Nat} {o r:List Nat} {k i:Nat}(hi:i < o.length):(Dq J o r k).getD i 0=if i < k then J (o.getD i 0) (r.getD i 0)else o.getD i 0:=by
 unfold Dq;rw [Qk,List.getElem?_map,List.getElem?_range hi];rfl
theorem Qsy {J:Nat->Nat->Nat} {o r:List Nat} {k:Nat}(_hk:k < o.length):(Dq J o r k).set k (J (o.getD k 0) (r.getD k 0))=Dq J o r (k+1):=by
 refine List.ext_getElem (by simp [Dq]) fun i h1 h2=> ?_
 have hi:i < o.length:=by rw [Sn]at h2;exact h2
 rw [List.getElem_set]
 split
 ·rename_i e;subst e;simp only [Dq,List.getElem_map,List.getElem_range];rw [if_pos (Nat.lt_succ_self _)]
 rename_i e;simp only [Dq,List.getElem_map,List.getElem_range];by_cases h3:i < k
 ·rw [if_pos h3,if_pos (by omega)]
 rw [if_neg h3,if_neg (by omega)]
theorem Qnw {rl:List (List Nat)} {gn n k:Nat} {meet:Bool}(h:gn.testBit k=true)(hn:Rh gn k=true):Dq (fun x y=>if meet then x&&&y else x|||y) (Nk rl gn meet n k) (rl.getD k []) n=Nk rl gn meet n (k+1):=by
 have hl:=Qqs (rl:=rl) (n:=n) (meet:=meet) hn;refine List.ext_getElem (by rw [Sn,hl,Qqs (by rw [Dz,hn];rfl)]) fun i h1 h2=> ?_
 have hi:i < n:=by rw [Sn,hl]at h1;exact h1
 simp only [Dq,List.getElem_map,List.getElem_range,Nk,Dz,hn,Bool.true_or,cond_true,Qqw];rw [if_pos hi,Kr,Qk,List.getElem?_map,List.getElem?_range hi];simp only [Option.map_some,Option.getD_some];unfold Da;rw [h];cases meet <;> rfl
end Go.Proofs.YtmidgcldljfkcaaGreatDoor
