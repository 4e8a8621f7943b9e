/- relation.Has: what it says of the properties 1, 2, 4, 5; frames.In. -/
import Derived.Test.YtkmclcmnoicagaaGreatDoorT24
namespace Go.Proofs.YtkmclcmnoicagaaGreatDoor
set_option maxRecDepth 100000
set_option maxHeartbeats 128000000
open Go.RowKit
noncomputable def Qxt (md:Md) (lg:Int):Bool:=decide (0<=lg/\lg<=6)&&inB md lg
theorem Qrm {md:Md} {lg:Int}(hck:Zy md=0)(h:Qxt md lg=true):Fm md lg:=by
 unfold Qxt at h;rw [Bool.and_eq_true]at h;exact Qcg hck (of_decide_eq_true h.1) h.2
noncomputable def inG (md:Md) (lg:Int):Bool:=decide (Zy md=0)&&Qxt md lg
theorem Qcf {md:Md} {lg:Int}(h:inG md lg=true):Zy md=0/\Fm md lg:=by
 unfold inG at h;rw [Bool.and_eq_true]at h;have hc:=of_decide_eq_true h.1;exact⟨hc,Qrm hc h.2⟩
theorem Ef(n:Nat)(h:n<=64)(w:World):Calls Tryz.prog 22 #[.int .i64 (n:Int)] w fun e w'=>e=.returned (.int .u64 ((Zl n:Nat):Int))/\w=w':=by
 by_cases h64:n=64
 ·subst h64;go_enter Tryz.func22,Tryz.ntmps22;go_wp2_with fail;go_ret;exact⟨rfl,rfl⟩
 have hn:n < 64:=by omega
 have hn1:(n:Int) < 64:=by omega
 have hmin:min n 64=n:=by omega
 have HW:=Qq (Ec hn);clear h64 h;go_enter Tryz.func22,Tryz.ntmps22;go_wp2_with fail;go_ret;exact⟨by rw [<-show((2^n - 1:Nat):Int)=((Zl n:Nat):Int)from rfl,<-HW.out] <;> rfl,rfl⟩
theorem Qj5(v:Value)(l:List Nat)(n:Nat)(w:World)(h:Ji w v l)(hw:∀s∈l,Zj s)(hn:n<=64):
 Calls Tryz.prog 107 #[v,.int .i64 (n:Int)] w fun e w'=>e=.returned (.bool (Zx l n))/\Ext w w':=by
 obtain⟨A,c,rfl,hlc,hcm,HL⟩:=Gc h;have HWD:=Qq hw;unfold maxLen at hcm;clear h hw;go_enter Tryz.func107,Tryz.ntmps107;go_wp2_with fail;go_loopw [5] (fun v wr=>∃k:Nat,v=.int .i64 (k:Int)/\k<=l.length/\Hid (Ext w wr/\∀j,j < k->decide (l.getD j 0 < 2^n)=true)) (fun v _=>l.length - (intOf v).toNat)
 case atStart=>exact⟨0,rfl,Nat.zero_le _,Qq ⟨Qz,fun j hj=>absurd hj (by omega)⟩⟩
 case round =>
  obtain⟨k,rfl,hk,HREL⟩:=hrel;have HX:=Qq HREL.out.1;have HJ:=Qq HREL.out.2;clear HREL;by_cases hlt2:k < l.length
  ·have hk1:(k:Int) < (l.length:Int):=by omega
   obtain⟨ad,rfl,hadl,hc⟩:=HL.out k (by omega);have a0:=(HX.out.cell (p:=ad.add k) (Qj hadl)).trans hc;have al:(ad.add k).block < wr.heap.size:=by rw [Qp];exact Qy hadl HX.out.size
   have HNX:=Qq (show decide (l.getD k 0 < 2^n)=true->∀j,j < k+1->decide (l.getD j 0 < 2^n)=true from fun h=>Be (P:=fun j=>decide (l.getD j 0 < 2^n)=true) HJ.out h);have HHT:=Qq (show decide (l.getD k 0 < 2^n)=false->Zx l n=true from Hj (by omega));have hout:=Qqv (n:=n) (Fd HWD.out k) hn;obtain⟨sx,hsx⟩:∃s,s=l.getD k 0:=⟨_,rfl⟩;rw [<-hsx]at a0 hout HNX HHT;clear hc hsx;go_upto_region 4 with(fail);cases hd:decide (sx < 2^n)
   ·rw [hd]at hout;have HD:=Qq hd;clear hd;refine wp_region_held_drew (S:=fun w'=>w'.cell? (ad.add k)=some (.int .u64 (sx:Int))) (by kernel_rfl) (xc al a0) (fun hHeld=> ?_);refine tk 0 hHeld ?_;refine tk 1 hHeld ?_;refine tk 2 hHeld ?_;refine tk 3 hHeld ?_;refine tk 4 hHeld ?_;refine wpAnyH_ready (rs:= [5]) (by kernel_rfl) (by simp) ?_;refine AllReadyH.cons rfl (fun K hK=> ?_) AllReadyH.nil;go_simp;refine(Ef n hn _).mono ?_;rintro e w3 ⟨rfl,rfl⟩;go_wp2_with fail;refine hK.out _ _ (xc al a0) (fun hHeld=> ?_);clear hK K;refine Qd ?_;refine tk 6 hHeld ?_;refine tk 7 hHeld ?_;refine wpAnyH_done (by kernel_rfl) ?_ _
    have HE:=Qq (HHT.out HD.out);go_wp2_with fail;go_ret;exact⟨by rw [HE.out] <;> rfl,HX.out.trans Qz.drew⟩
   rw [hd]at hout;have HD:=Qq hd;clear hd;refine wp_region_held_drew (S:=fun w'=>w'.cell? (ad.add k)=some (.int .u64 (sx:Int))) (by kernel_rfl) (xc al a0) (fun hHeld=> ?_);refine tk 0 hHeld ?_;refine tk 1 hHeld ?_;refine tk 2 hHeld ?_;refine tk 3 hHeld ?_;refine tk 4 hHeld ?_;refine wpAnyH_ready (rs:= [5]) (by kernel_rfl) (by simp) ?_;refine AllReadyH.cons rfl (fun K hK=> ?_) AllReadyH.nil;go_simp;refine(Ef n hn _).mono ?_;rintro e w3 ⟨rfl,rfl⟩;go_wp2_with fail;refine hK.out _ _ (xc al a0) (fun hHeld=> ?_);clear hK K;refine Qd ?_;refine tk 6 hHeld ?_;refine tk 7 hHeld ?_;refine wpAnyH_done (by kernel_rfl) ?_ _
   have HP:=Qq (HNX.out HD.out);go_wp2_with fail;go_roundw
   case rel=>exact⟨k+1,by go_num,by omega,Qq ⟨HX.out.trans Qz.drew,HP.out⟩⟩
   case measure=>simp [intOf];omega
  obtain rfl:l.length=k:=by omega
  have HE:=Qq (Pa HJ.out);go_wp2_with fail;go_ret;exact⟨by rw [HE.out] <;> rfl,HX.out⟩
theorem Qyw(n:Nat)(h:n<=64)(w:World):Calls Tryz.prog 202 #[.int .i64 (n:Int)] w fun e w'=>e=.returned (.int .u64 ((Zl n:Nat):Int))/\w=w':=by
 by_cases h64:n=64
 ·subst h64;go_enter Tryz.func202,Tryz.ntmps202;go_wp2_with fail;go_ret;exact⟨rfl,rfl⟩
 have hn:n < 64:=by omega
 have hn1:(n:Int) < 64:=by omega
 have hmin:min n 64=n:=by omega
 have HW:=Qq (Ec hn);clear h64 h;go_enter Tryz.func202,Tryz.ntmps202;go_wp2_with fail;go_ret;exact⟨by rw [<-show((2^n - 1:Nat):Int)=((Zl n:Nat):Int)from rfl,<-HW.out] <;> rfl,rfl⟩
theorem Qmm(s i:Nat)(w:World)(hi:i < 64)(hs:Zj s):Calls Tryz.prog 219 #[.int .u64 (s:Int),.int .i64 (i:Int)] w fun e w'=>e=.returned (.bool (s.testBit i))/\w=w':=by
 have hm:min i 64=i:=by omega
 have hi1:(i:Int) < 64:=by omega
 have HB:=Qq (Bt s i hs);clear hs;go_enter Tryz.func219,Tryz.ntmps219;go_wp2_with fail;go_ret;exact⟨by rw [<-HB.out] <;> rfl,rfl⟩
theorem Tk(v:Value)(l:List Nat)(w:World)(h:Ji w v l)(hw:∀s∈l,Zj s):
 Calls Tryz.prog 169 #[.int .i64 (l.length:Int),v] w fun e w'=>e=.returned (.int .i64 (Yb l.length l))/\Ext w w':=by
 obtain⟨A,c,rfl,hlc,hcm,HL⟩:=Gc h;have HWD:=Qq hw;unfold maxLen at hcm;clear h hw;by_cases hn:l.length<=64
 ·have hn1:¬(64:Int) < (l.length:Int):=by omega
  have HC:=Qq (show Yb l.length l=if Zx l l.length then 1 else 0 by unfold Yb;rw [if_neg (by omega),if_neg (by simp)];rfl);obtain⟨n,hne⟩:∃n,n=l.length:=⟨_,rfl⟩;have HN:=Qq hne;rw [<-hne]at HC hn;rw [<-hne];have hn2:¬(64:Int) < (n:Int):=by omega
  have hne2:((n:Int) !=(n:Int))=false:=by simp
  have hlen:l.length=n:=hne.symm;clear hne hn1;go_enter Tryz.func169,Tryz.ntmps169;go_wp2_with fail;go_loopw [5] (fun v wr=>∃k:Nat,v=.int .i64 (k:Int)/\k<=n/\Hid (Ext w wr/\∀j,j < k->decide (l.getD j 0 < 2^n)=true)) (fun v _=>n - (intOf v).toNat)
  case atStart=>exact⟨0,rfl,Nat.zero_le _,Qq ⟨Qz,fun j hj=>absurd hj (by omega)⟩⟩
  case round =>
   obtain⟨k,rfl,hk,HREL⟩:=hrel;have HX:=Qq HREL.out.1;have HJ:=Qq HREL.out.2;clear HREL;by_cases hlt2:k < n
   ·have hk1:(k:Int) < (n:Int):=by omega
    obtain⟨ad,rfl,hadl,hc⟩:=HL.out k (by omega);have a0:=(HX.out.cell (p:=ad.add k) (Qj hadl)).trans hc;have al:(ad.add k).block < wr.heap.size:=by rw [Qp];exact Qy hadl HX.out.size
    have HNX:=Qq (show decide (l.getD k 0 < 2^n)=true->∀j,j < k+1->decide (l.getD j 0 < 2^n)=true from fun h=>Be (P:=fun j=>decide (l.getD j 0 < 2^n)=true) HJ.out h);have HHT:=Qq (show decide (l.getD k 0 < 2^n)=false->Zx l n=true from Hj (by omega));have hout:=Qqv (n:=n) (Fd HWD.out k) hn;obtain⟨sx,hsx⟩:∃s,s=l.getD k 0:=⟨_,rfl⟩;rw [<-hsx]at a0 hout HNX HHT;clear hc hsx;go_upto_region 8 with(fail);cases hd:decide (sx < 2^n)
    ·rw [hd]at hout;have HD:=Qq hd;clear hd;refine wp_region_held_drew (S:=fun w'=>w'.cell? (ad.add k)=some (.int .u64 (sx:Int))) (by kernel_rfl) (xc al a0) (fun hHeld=> ?_);refine tk 0 hHeld ?_;refine tk 1 hHeld ?_;refine tk 2 hHeld ?_;refine tk 3 hHeld ?_;refine tk 4 hHeld ?_;refine wpAnyH_ready (rs:= [5]) (by kernel_rfl) (by simp) ?_;refine AllReadyH.cons rfl (fun K hK=> ?_) AllReadyH.nil;go_simp;refine(Qyw n hn _).mono ?_;rintro e w3 ⟨rfl,rfl⟩;go_wp2_with fail;refine hK.out _ _ (xc al a0) (fun hHeld=> ?_);clear hK K;refine Qd ?_;refine tk 6 hHeld ?_;refine tk 7 hHeld ?_;refine wpAnyH_done (by kernel_rfl) ?_ _
     have HE:=Qq (HHT.out HD.out);go_wp2_with fail;go_ret;exact⟨by rw [HC.out,HE.out] <;> rfl,HX.out.trans Qz.drew⟩
    rw [hd]at hout;have HD:=Qq hd;clear hd;refine wp_region_held_drew (S:=fun w'=>w'.cell? (ad.add k)=some (.int .u64 (sx:Int))) (by kernel_rfl) (xc al a0) (fun hHeld=> ?_);refine tk 0 hHeld ?_;refine tk 1 hHeld ?_;refine tk 2 hHeld ?_;refine tk 3 hHeld ?_;refine tk 4 hHeld ?_;refine wpAnyH_ready (rs:= [5]) (by kernel_rfl) (by simp) ?_;refine AllReadyH.cons rfl (fun K hK=> ?_) AllReadyH.nil;go_simp;refine(Qyw n hn _).mono ?_;rintro e w3 ⟨rfl,rfl⟩;go_wp2_with fail;refine hK.out _ _ (xc al a0) (fun hHeld=> ?_);clear hK K;refine Qd ?_;refine tk 6 hHeld ?_;refine tk 7 hHeld ?_;refine wpAnyH_done (by kernel_rfl) ?_ _
    have HP:=Qq (HNX.out HD.out);go_wp2_with fail;go_roundw
    case rel=>exact⟨k+1,by go_num,by omega,Qq ⟨HX.out.trans Qz.drew,HP.out⟩⟩
    case measure=>simp [intOf];omega
   obtain rfl:n=k:=by omega
   have HE:=Qq (show Zx l n=false from Pa (by rw [hlen];exact HJ.out));go_wp2_with fail;go_ret;exact⟨by rw [HC.out,HE.out] <;> rfl,HX.out⟩
 have hn1:(64:Int) < (l.length:Int):=by omega
 have HC:=Qq (show Yb l.length l=2 by unfold Yb;rw [if_pos (by omega)]);go_enter Tryz.func169,Tryz.ntmps169;go_wp2_with fail;go_ret;exact⟨by rw [HC.out] <;> rfl,Qz⟩
theorem Bl(v:Value)(l:List Nat)(w:World)(h:Ji w v l)(hw:∀s∈l,Zj s):
 Calls Tryz.prog 108 #[v] w fun e w'=>e=.returned (.bool (Xb l))/\Ext w w':=by
 have H:=Qq h;have HW:=Qq hw;obtain⟨A,c,rfl,_⟩:=h;clear hw;go_enter Tryz.func108,Tryz.ntmps108;go_wp2_with fail;refine(Tk _ l _ H.out HW.out).mono ?_;rintro e w2 ⟨rfl,hx⟩;have HX:=Qq hx;clear hx;go_wp2_with fail;go_ret;exact⟨rfl,HX.out⟩
theorem Qzd(g k:Nat):(⟨g,0,none⟩:Addr).add k=⟨g,k,none⟩:=by unfold Addr.add;cases k <;> simp
def uV(l:List Nat):List Value:=l.map fun(u:Nat)=>Value.int .u64 (u:Int)
theorem Mv:(Tryz.prog.info? 41).map (fun i=>(i.zero,i.size,i.bytes))=some (some (.int .u64 0),1,8):=by kernel_rfl
def Jz(base:Nat)(w:World)(v:Value)(l:List Nat):Prop:=w.ownsRow base 41 1 v l.length (uV l)
section
variable {base:Nat} {w w':World} {v:Value} {l:List Nat} {g n cap k:Nat}
theorem Jz.ext(h:Jz base w v l)(he:Ext w w'):Jz base w' v l:=Zf h he
theorem Jz.nil(base:Nat)(w:World):Jz base w (.slice none 0 0) []:=World.ownsRow_nil _ _ _ _
theorem Jz.slice(h:Jz base w v l)(h0:0 < l.length):∃g cap,v=.slice (some ⟨g,0,none⟩) l.length cap/\g < w.heap.size/\base<=g/\l.length<=cap/\cap<=maxLen/\(∀i,i < l.length->w.cell? ⟨g,i,none⟩=some (.int .u64 ((l.getD i 0:Nat):Int)))/\∀i,w.frozen? ⟨g,i,none⟩=false:=by
 rcases h.2 with⟨_,e0⟩|⟨g,cap,cur,rfl,hb,hg,hnc,hm,hs,ht⟩
 ·omega
 refine⟨g,cap,rfl,Qm hg,hb,hnc,hm,fun i hi=> ?_,fun i=>by simp [World.frozen?,hg]⟩;have h1:(uV l)[i]?=some (.int .u64 ((l.getD i 0:Nat):Int)):=by
  unfold uV;rw [List.getElem?_map,Qk,Qv hi];rfl
 rw [<-ht,List.getElem?_take]at h1
 split at h1
 ·have h2:cur[i]?=some (.int .u64 ((l.getD i 0:Nat):Int)):=by simpa using h1
  simp [World.cell?,hg,h2]
 cases h1
theorem Jz.at_(h:Jz base w (.slice (some ⟨g,0,none⟩) n cap) l)(h0:0 < l.length):n=l.length/\g < w.heap.size/\base<=g/\n<=cap/\cap<=maxLen/\(∀i,i < l.length->w.cell? ⟨g,i,none⟩=some (.int .u64 ((l.getD i 0:Nat):Int)))/\∀i,w.frozen? ⟨g,i,none⟩=false:=by
 obtain⟨g',cap',e,h1,h2,h3,h4,h5,h6⟩:=h.slice h0;injection e with e1 e2 e3;injection e1 with e1;injection e1 with e1;subst e1 e2 e3;exact⟨rfl,h1,h2,h3,h4,h5,h6⟩
theorem Jz.u64s(h:Jz base w v l):Ji w v l:=by
 rcases Nat.eq_zero_or_pos l.length with h0|h0
 ·have:l= []:=List.length_eq_zero_iff.1 h0;subst this;rcases h.2 with⟨e,_⟩|⟨g,cap,cur,rfl,hb,hg,hnc,hm,hs,ht⟩
  ·subst e;exact Qjc w
  exact⟨_,cap,rfl,hnc,hm,fun h=>absurd rfl h⟩
 obtain⟨g,cap,rfl,h1,_,h3,h4,h5,_⟩:=h.slice h0;refine⟨_,cap,rfl,h3,h4,fun _=>⟨_,rfl,h1,fun k z hk=> ?_⟩⟩;have hk':=(List.getElem?_eq_some_iff.1 hk).1;have:=h5 k hk';rw [Qzd,this,Qk,hk];rfl
theorem Jz.set(h:Jz base w (.slice (some ⟨g,0,none⟩) n cap) l)(hn:l.length=n)(j s:Nat):Jz base (w.setCell ⟨g,j,none⟩ (.int .u64 (s:Int))) (.slice (some ⟨g,0,none⟩) n cap) (l.set j s):=by
 subst hn;have h1:=(World.ownsRow.stored h j (.int .u64 (s:Int))).1;unfold Jz uV;rw [List.length_set,List.map_set];exact h1
theorem Dl(w:World)(t:TypeId):(w.alloc (.cells #[] t)).ownsRow w.heap.size t 1 (.slice (some ⟨w.heap.size,0,none⟩) 0 0) 0 []:=
 ⟨rfl,.inr ⟨w.heap.size,0,#[],rfl,Nat.le_refl _,heap_alloc_new _ _,Nat.le_refl _,by unfold maxLen;omega,rfl,rfl⟩⟩
theorem Fo {ad:Addr}(h:∀i,i < l.length->w.cell? (ad.add i)=some (.int .u64 ((l.getD i 0:Nat):Int))):∀(j:Nat) u,(uV l)[j]?=some u->w.cell? (ad.add j)=some u:=fun j u hj=>by
 unfold uV at hj;rw [List.getElem?_map]at hj;cases e:l[j]? with
 |none=>rw [e]at hj;cases hj
 |some x =>
  rw [e]at hj;have hk:=(List.getElem?_eq_some_iff.1 e).1;rw [h j hk,Qk,e];exact hj
theorem Mh(l:List Nat):∀u∈uV l,u.oneCell'=true:=fun u hu=>by
 obtain⟨x,_,rfl⟩:=List.mem_map.1 hu;rfl
theorem Mc(l:List Nat):(uV l).length=l.length:=by simp [uV]
end
theorem Lr(va vb:Value)(a b:List Nat)(w:World)(ha:Ji w va a)(hb:Ji w vb b):
 Calls Tryz.prog 174 #[va,vb] w fun e w'=>e=.returned (.bool (decide (a=b)))/\Ext w w':=by
 obtain⟨Aa,ca,rfl,hca1,hca2,HA⟩:=Gc ha;unfold maxLen at hca2;obtain⟨Ab,cb,rfl,_,_,HB⟩:=Gc hb;clear ha hb;by_cases hl:a.length=b.length
 ·have HL:=Qq hl;obtain⟨n,hn⟩:∃n,n=a.length:=⟨_,rfl⟩;have HNA:=Qq hn;rw [<-hn]at hl HA hca1⊢;rw [<-hl]at HB⊢;have hnn:((n:Int) !=(n:Int))=false:=by simp
  clear hn hl;go_enter Tryz.func174,Tryz.ntmps174;go_wp2_with fail;go_loopw [5] (fun v wr=>∃k:Nat,v=.int .i64 (k:Int)/\k<=n/\Hid (Ext w wr/\∀j,j < k->a.getD j 0=b.getD j 0)) (fun v _=>n - (intOf v).toNat)
  case atStart=>exact⟨0,rfl,Nat.zero_le _,Qq ⟨Qz,fun j hj=>absurd hj (by omega)⟩⟩
  case round =>
   obtain⟨k,rfl,hk,HREL⟩:=hrel;have HX:=Qq HREL.out.1;have HJ:=Qq HREL.out.2;clear HREL;by_cases hlt2:k < n
   ·have hk1:(k:Int) < (n:Int):=by omega
    obtain⟨ad,rfl,hadl,hc⟩:=HA.out k hlt2;obtain⟨bd,rfl,hbdl,hd⟩:=HB.out k hlt2;have a0:=(HX.out.cell (p:=ad.add k) (Qj hadl)).trans hc;have al:(ad.add k).block < wr.heap.size:=by rw [Qp];exact Qy hadl HX.out.size
    have b0:=(HX.out.cell (p:=bd.add k) (Qj hbdl)).trans hd;have bl:(bd.add k).block < wr.heap.size:=by rw [Qp];exact Qy hbdl HX.out.size
    have HNX:=Qq (show a.getD k 0=b.getD k 0->∀j,j < k+1->a.getD j 0=b.getD j 0 from fun h=>Be (P:=fun j=>a.getD j 0=b.getD j 0) HJ.out h);have HHT:=Qq (show a.getD k 0≠b.getD k 0->decide (a=b)=false from fun h=>decide_eq_false fun e=>h (by rw [e]));obtain⟨x,hx⟩:∃x,x=a.getD k 0:=⟨_,rfl⟩;obtain⟨y,hy⟩:∃y,y=b.getD k 0:=⟨_,rfl⟩;rw [<-hx]at a0 HNX HHT;rw [<-hy]at b0 HNX HHT;clear hc hd hx hy;go_upto_region 6 with(fail);by_cases hq:x=y
    ·have HP:=Qq (HNX.out hq);have hne:((x:Int) !=(y:Int))=false:=by rw [hq];simp
     clear hq;refine wp_region_held_drew (S:=fun w'=>w'.cell? (ad.add k)=some (.int .u64 (x:Int))/\w'.cell? (bd.add k)=some (.int .u64 (y:Int))) (by kernel_rfl) ⟨xc al a0,xc bl b0⟩ (fun hHeld=> ?_);refine tk 0 hHeld ?_;refine tk 1 hHeld ?_;refine tk 2 hHeld ?_;refine tk 3 hHeld ?_;refine tk 4 hHeld ?_;refine tk 5 hHeld ?_;refine tk 6 hHeld ?_;refine tk 7 hHeld ?_;refine tk 8 hHeld ?_;refine wpAnyH_done (by kernel_rfl) ?_ _;go_wp2_with fail;go_roundw
     case rel=>exact⟨k+1,by go_num,by omega,Qq ⟨HX.out.trans Qz.drew,HP.out⟩⟩
     case measure=>simp [intOf];omega
    have HE:=Qq (HHT.out hq);have hne:((x:Int) !=(y:Int))=true:=by simp;omega
    clear hq;refine wp_region_held_drew (S:=fun w'=>w'.cell? (ad.add k)=some (.int .u64 (x:Int))/\w'.cell? (bd.add k)=some (.int .u64 (y:Int))) (by kernel_rfl) ⟨xc al a0,xc bl b0⟩ (fun hHeld=> ?_);refine tk 0 hHeld ?_;refine tk 1 hHeld ?_;refine tk 2 hHeld ?_;refine tk 3 hHeld ?_;refine tk 4 hHeld ?_;refine tk 5 hHeld ?_;refine tk 6 hHeld ?_;refine tk 7 hHeld ?_;refine tk 8 hHeld ?_;refine wpAnyH_done (by kernel_rfl) ?_ _;go_wp2_with fail;go_ret;exact⟨by rw [HE.out] <;> rfl,HX.out.trans Qz.drew⟩
   obtain rfl:n=k:=by omega
   have HE:=Qq (show decide (a=b)=true from decide_eq_true (Ow HL.out (by rw [<-HNA.out];exact HJ.out)));go_wp2_with fail;go_ret;exact⟨by rw [HE.out] <;> rfl,HX.out⟩
 have hne:((a.length:Int) !=(b.length:Int))=true:=by simp;omega
 have HE:=Qq (show decide (a=b)=false from decide_eq_false fun e=>hl (by rw [e]));go_enter Tryz.func174,Tryz.ntmps174;go_wp2_with fail;go_ret;exact⟨by rw [HE.out] <;> rfl,Qz⟩
theorem Qyi(v:Value)(l:List Nat)(w:World)(h:Ji w v l)(hw:∀s∈l,Zj s)(hv:Xb l=true)(h0:0 < l.length):
 Calls Tryz.prog 170 #[v] w fun e w'=>∃u,e=.returned (.tuple #[u,.int .i64 0])/\Ext w w'/\Jz w.heap.size w' u (Ba l l.length):=by
 have H:=Qq h;have HW:=Qq hw;have hl64:=(Ul.1 hv).1;have HV:=Qq (show Yb l.length l=0 by unfold Xb at hv;simpa using hv);obtain⟨A,c,rfl,_,_,HL⟩:=Gc h;obtain⟨iU,hiU,hzU0,hzU1,hzU2⟩:=info_parts Mv;clear h hw hv;go_enter Tryz.func170,Tryz.ntmps170;go_wp2_with fail;refine(Tk _ l _ H.out HW.out).mono ?_;rintro e w2 ⟨rfl,hx2⟩;rw [HV.out];have HX2:=Qq hx2;clear hx2;obtain⟨ad,rfl,hadl,_⟩:=HL.out 0 h0;have HNEW:=Qq (show ∀(j:Nat) u,(uV l)[j]?=some u->(w2.alloc (.cells #[] 41)).cell? (ad.add j)=some u from Fo fun i hi=>by
  obtain⟨ad2,e,_,hc⟩:=HL.out i hi;injection e with e;subst e;exact((HX2.out.alloc _).cell (p:=ad.add i) (Qj hadl)).trans hc)
 have HRE:=Qq (Dl w2 41);obtain⟨n,hn⟩:∃n,n=l.length:=⟨_,rfl⟩;have HN:=Qq hn;rw [<-hn]at hl64 h0⊢;have hm1:0+n<=maxLen:=by unfold maxLen;omega
 have hm2:(0+n)*8<=140737488355328:=by omega
 clear hn;go_wp2_with(at_builtin;refine wpList_append_own_at _ rfl _ _ 23 rfl w2.heap.size 41 iU (.int .u64 0) 1 8 Tryz.underlying23 hiU hzU0 hzU1 hzU2 rfl (by decide) _ 0 [] rfl HRE.out ad n c (uV l) rfl (by rw [Mc,Nat.mul_one];exact HN.out.symm) HNEW.out (Mh l) hm1 hm2 (by simp) ?_);intro v3 w3 hown3 hgrow3 _ _;have HX3:=Qq (show Ext w w3 from(HX2.out.alloc _).grown hgrow3 (fun k hk=>by have h1:=HX2.out.size;have h2:w2.heap.size=k:=Option.some.inj hk;omega));have HM:=Qq (show Jz w.heap.size w3 v3 l by
  unfold Jz;rw [<-HN.out];exact Xk hown3 HX2.out.size)
 clear hown3 hgrow3;obtain⟨g,cap,rfl,hgl,hgb,_,hcm,_,_⟩:=HM.out.slice (by rw [<-HN.out];exact h0);rw [<-HN.out]at HM⊢;clear hgl;go_wp2_with fail;go_loopw [6] (fun v wr=>∃k:Nat,v=.int .i64 (k:Int)/\k<=n/\Hid (Ext w wr/\Jz w.heap.size wr (.slice (some ⟨g,0,none⟩) n cap) (Ba l k))) (fun v _=>n - (intOf v).toNat)
 case atStart=>exact⟨0,rfl,Nat.zero_le _,Qq ⟨HX3.out,by rw [Qst];exact HM.out⟩⟩
 case round =>
  obtain⟨k,rfl,hk,HREL⟩:=hrel;have HX:=Qq HREL.out.1;have HR:=Qq HREL.out.2;clear HREL;by_cases hlt2:k < n
  ·have hk1:(k:Int) < (n:Int):=by omega
   have hk64:k < 64:=by omega
   have hmin:min k 64=k:=by omega
   obtain⟨_,gl,_,_,_,hcell,hfr⟩:=HR.out.at_ (by rw [Ut,<-HN.out];exact h0);have gc:=hcell k (by rw [Ut,<-HN.out];exact hlt2);have gf:=hfr k;rw [Tw (by rw [<-HN.out];exact hlt2),if_neg (Nat.lt_irrefl _)]at gc;obtain⟨y,hy⟩:∃y,y=l.getD k 0|||2^k:=⟨_,rfl⟩;have hor:bits .or .u64 ((l.getD k 0:Nat):Int) (IntKind.u64.wrap ((2:Int)^k))=(y:Int):=by
    rw [Qjh hk64,hy];exact Bd (Fd HW.out k) (Qy (Nat.pow_lt_pow_right (by decide) (Nat.lt_succ_self k)) (Nr (show k+1<=64 by omega)))
   have HST:=Qq (show Jz w.heap.size (wr.setCell ⟨g,k,none⟩ (.int .u64 (y:Int))) (.slice (some ⟨g,0,none⟩) n cap) (Ba l (k+1)) by
    rw [<-Qss (by rw [<-HN.out];exact hlt2),<-hy];exact HR.out.set (by rw [Ut];exact HN.out.symm) k y)
   obtain⟨x,hx⟩:∃x,x=l.getD k 0:=⟨_,rfl⟩;rw [<-hx]at gc hor;clear hcell hfr hx hy;go_wp2_with fail;go_roundw
   case rel=>exact⟨k+1,by go_num,by omega,Qq ⟨HX.out.setCell (p:=⟨g,k,none⟩) hgb _,HST.out⟩⟩
   case measure=>simp [intOf];omega
  obtain rfl:n=k:=by omega
  go_wp2_with fail;go_ret2;exact⟨_,rfl,HX.out,by rw [<-HN.out];exact HR.out⟩
def Mw(w:World)(g n:Nat):Nat:=(List.range (n*n)).countP fun k=>match w.cell? ⟨g,k / n,none⟩with|some (.int _ z)=> !z.toNat.testBit (k % n)|_=>true
def Zqe(v:Value):Nat:=match v with| .bool true=>1|_=>0
theorem Qy7 {bs g n cap:Nat} {w:World} {l:List Nat}(h:Jz bs w (.slice (some ⟨g,0,none⟩) n cap) l)(h0:0 < l.length):Mw w g n=Ff n l:=by
 obtain⟨hn,_,_,_,_,hc,_⟩:=h.at_ h0;unfold Mw Ff;refine List.countP_congr fun k hk=> ?_
 have hk2:k / n < l.length:=by
  rw [<-hn];have:=List.mem_range.1 hk;exact Nat.div_lt_of_lt_mul this
 rw [hc _ hk2];show(!((l.getD (k / n) 0:Nat):Int).toNat.testBit (k % n))=true↔_;rw [Int.toNat_natCast]
structure GwS (eu:Bool) (w wr:World) (g cap n:Nat) (r out:List Nat):Prop where
 ext:Ext w wr
 row:Jz w.heap.size wr (.slice (some ⟨g,0,none⟩) n cap) out
 grw:Ns eu r out n
theorem Qga(eu:Bool)(v:Value)(r:List Nat)(w:World)(h:Ji w v r)(hl64:r.length<=64)(hb:Zx r r.length=false)(h0:0 < r.length):
 Calls Tryz.prog 205 #[v,.bool eu] w fun e w'=>∃u,e=.returned u/\Ext w w'/\∃out,Jz w.heap.size w' u out/\(out=r↔Fk eu r):=by
 obtain⟨A,c,rfl,_,_,HL⟩:=Gc h;obtain⟨iU,hiU,hzU0,hzU1,hzU2⟩:=info_parts Mv;clear h;obtain⟨ad,rfl,hadl,_⟩:=HL.out 0 h0;have HNEW:=Qq (show ∀(j:Nat) u,(uV r)[j]?=some u->(w.alloc (.cells #[] 41)).cell? (ad.add j)=some u from Fo fun i hi=>by
  obtain⟨ad2,e,_,hc⟩:=HL.out i hi;injection e with e;subst e;exact(((Ext.refl w).alloc _).cell (p:=ad.add i) (Qj hadl)).trans hc)
 have HRE:=Qq (Dl w 41);have HG0:=Qq (Ns.start (eu:=eu) (r:=r) rfl hb);obtain⟨n,hn⟩:∃n,n=r.length:=⟨_,rfl⟩;have HN:=Qq hn;rw [<-hn]at hl64 h0 HG0⊢;have hm1:0+n<=maxLen:=by unfold maxLen;omega
 have hm2:(0+n)*8<=140737488355328:=by omega
 clear hn hb;go_enter Tryz.func205,Tryz.ntmps205;go_wp2_with(at_builtin;refine wpList_append_own_at _ rfl _ _ 23 rfl w.heap.size 41 iU (.int .u64 0) 1 8 Tryz.underlying23 hiU hzU0 hzU1 hzU2 rfl (by decide) _ 0 [] rfl HRE.out ad n c (uV r) rfl (by rw [Mc,Nat.mul_one];exact HN.out.symm) HNEW.out (Mh r) hm1 hm2 (by simp) ?_);intro v3 w3 hown3 hgrow3 _ _;have HX3:=Qq (show Ext w w3 from((Ext.refl w).alloc _).grown hgrow3 (fun k hk=>by have h2:w.heap.size=k:=Option.some.inj hk;omega));have HM:=Qq (show Jz w.heap.size w3 v3 r by
  unfold Jz;rw [<-HN.out];exact hown3)
 clear hown3 hgrow3;obtain⟨g,cap,rfl,hgl,hgb,_,hcm,_,_⟩:=HM.out.slice (by rw [<-HN.out];exact h0);rw [<-HN.out]at HM⊢;have HS0:=Qq (show GwS eu w w3 g cap n r r from⟨HX3.out,HM.out,HG0.out⟩);have hn62:n<=64:=hl64;clear hgl HM HX3 HG0;go_wp2_with fail;go_loopw [6] (fun vc wr=>∃fl:Bool,vc=.bool fl/\Hid (∃out,GwS eu w wr g cap n r out/\(fl=false->∀a,a < n->∀b,b < n->Fp eu out a b))) (fun vc wr=>2*Mw wr g n+Zqe vc)
 case atStart=>exact⟨true,rfl,Qq ⟨r,HS0.out,fun e=>by cases e⟩⟩
 case round =>
  clear HS0;obtain⟨fl,rfl,HREL⟩:=hrel;obtain⟨out0,hs0,hc0⟩:=HREL.out;have HS0:=Qq hs0;have HC0:=Qq hc0;clear HREL hs0 hc0;cases fl
  ·have HD:=Qq (HS0.out.grw.done HN.out.symm (HC0.out (by trivial)));go_wp2_with fail;go_ret
   first
   |exact⟨_,rfl,HS0.out.ext,out0,HS0.out.row,HD.out⟩
   |exact⟨HS0.out.ext,out0,HS0.out.row,HD.out⟩
  have HZ0:=Qq (Qy7 HS0.out.row (by rw [HS0.out.grw.len];exact h0));obtain⟨wp,hwp⟩:∃v,v=wr:=⟨_,rfl⟩;subst hwp;go_wp2_with fail;go_loopw [6,7] (fun vc vi wr=>∃a:Nat,vi=.int .i64 (a:Int)/\a<=n/\∃fl:Bool,vc=.bool fl/\Hid (∃out,GwS eu w wr g cap n r out/\(fl=false->∀a',a' < a->∀b,b < n->Fp eu out a' b)/\Ff n out<=Ff n out0/\(fl=true->Ff n out < Ff n out0))) (fun _ vi _=>n - (intOf vi).toNat)
  case atStart=>exact⟨0,rfl,Nat.zero_le _,false,rfl,Qq ⟨out0,HS0.out,(fun _ a' ha'=>absurd ha' (by omega)),Nat.le_refl _,fun e=>by cases e⟩⟩
  case round =>
   obtain⟨a,rfl,ha,fl,rfl,HREL⟩:=hrel;by_cases hlt2:a < n
   ·have hk1:(a:Int) < (n:Int):=by omega
    obtain⟨wq,hwq⟩:∃v,v=wr:=⟨_,rfl⟩;subst hwq;go_wp2_with fail;go_loopw [6,8] (fun vc vi wr=>∃b:Nat,vi=.int .i64 (b:Int)/\b<=n/\∃fl:Bool,vc=.bool fl/\Hid (∃out,GwS eu w wr g cap n r out/\(fl=false->(∀a',a' < a->∀b,b < n->Fp eu out a' b)/\∀b',b' < b->Fp eu out a b')/\Ff n out<=Ff n out0/\(fl=true->Ff n out < Ff n out0))) (fun _ vi _=>n - (intOf vi).toNat)
    case atStart =>
     obtain⟨out,h1,h2,h3,h4⟩:=HREL.out;exact⟨0,rfl,Nat.zero_le _,fl,rfl,Qq ⟨out,h1,fun e=>⟨h2 e,fun b' hb'=>absurd hb' (by omega)⟩,h3,h4⟩⟩
    case round =>
     clear HREL;obtain⟨b,rfl,hb,fl,rfl,HREL⟩:=hrel;obtain⟨out,hs,hcd,hz1,hz2⟩:=HREL.out;have HS:=Qq hs;have HCD:=Qq hcd;have HZ1:=Qq hz1;have HZ2:=Qq hz2;clear HREL hs hcd hz1 hz2;by_cases hlt3:b < n
     ·have hk2:(b:Int) < (n:Int):=by omega
      have hb64:b < 64:=by omega
      obtain⟨-,gl,-,-,-,hcell,hfr⟩:=HS.out.row.at_ (by rw [HS.out.grw.len];exact h0);have ca:=hcell a (by rw [HS.out.grw.len];exact hlt2);have cb:=hcell b (by rw [HS.out.grw.len];exact hlt3);have HFR:=Qq hfr;have HWA:=Qq (show Zj (out.getD a 0)from Qy (HS.out.grw.lt a hlt2) (Nr hn62));have HWB:=Qq (show Zj (out.getD b 0)from Qy (HS.out.grw.lt b hlt3) (Nr hn62));have HNX:=Qq (show Fp eu out a b->∀fl:Bool,(fl=false->(∀a',a' < a->∀b,b < n->Fp eu out a' b)/\∀b',b' < b->Fp eu out a b')->(fl=false->(∀a',a' < a->∀b,b < n->Fp eu out a' b)/\∀b',b' < b+1->Fp eu out a b')from fun h fl h1 e=>⟨(h1 e).1,Be (P:=fun b'=>Fp eu out a b') (h1 e).2 h⟩)
      obtain⟨x,hx⟩:∃x,x=out.getD a 0:=⟨_,rfl⟩;obtain⟨y,hy⟩:∃y,y=out.getD b 0:=⟨_,rfl⟩;have HXE:=Qq hx;have HYE:=Qq hy;rw [<-hx]at ca HWA;rw [<-hy]at cb HWB;clear hcell hfr hx hy;obtain⟨tb,htb⟩:∃t,t=x.testBit b:=⟨_,rfl⟩;have HTB:=Qq htb;clear htb;go_wp2_with fail;refine(Qmm x b _ hb64 HWA.out).mono ?_;rintro e w4 ⟨rfl,rfl⟩;rw [<-HTB.out];cases tb
      ·have HP:=Qq (HNX.out (Qa5 (by rw [<-HXE.out];exact HTB.out.symm)) fl HCD.out);go_wp2_with fail;go_roundw
       case rel=>exact⟨b+1,by go_num,by omega,fl,rfl,Qq ⟨out,HS.out,HP.out,HZ1.out,HZ2.out⟩⟩
       case measure=>simp [intOf];omega
      cases eu
      ·skip
       obtain⟨z,hz⟩:∃z,z=x|||y:=⟨_,rfl⟩;have hor:bits .or .u64 (x:Int) (y:Int)=(z:Int):=by rw [hz];exact Bd HWA.out HWB.out
       have HZE:=Qq (show z=out.getD (atG false a b) 0|||Ph false out a b by rw [hz,HXE.out,HYE.out];rfl);have HATE:=Qq (show x=out.getD (atG false a b) 0 from HXE.out);have gf:=HFR.out a;clear hz;go_upto_region 12 with(fail);refine wp_region_held_drew (S:=fun w'=>w'.cell? (⟨g,a,none⟩)=some (.int .u64 (x:Int))/\w'.cell? (⟨g,b,none⟩)=some (.int .u64 (y:Int))) (by kernel_rfl) ⟨xc gl ca,xc gl cb⟩ (fun hHeld=> ?_);refine tk 0 hHeld ?_;refine tk 1 hHeld ?_;refine tk 2 hHeld ?_;refine tk 3 hHeld ?_;refine tk 4 hHeld ?_;refine tk 5 hHeld ?_;refine tk 6 hHeld ?_;refine wpAnyH_done (by kernel_rfl) ?_ _;obtain⟨W1,hW1⟩:∃v,v=wr.drew:=⟨_,rfl⟩
       have HXW1:=Qq (show Ext wr W1 by rw [hW1];exact Qz.drew);rw [<-hW1];clear hW1;have ca:=(HXW1.out.cell (p:=⟨g,a,none⟩) gl).trans ca;have cb:=(HXW1.out.cell (p:=⟨g,b,none⟩) gl).trans cb;have gf:=(HXW1.out.frozen (p:=⟨g,a,none⟩) gl).trans gf;have gl:=Qy gl HXW1.out.size;go_upto_region 15 with(fail);by_cases hzx:z=x
       ·have hne:((z:Int) !=(x:Int))=false:=by rw [hzx];simp
        have HP:=Qq (HNX.out (Qv1 (by rw [<-HZE.out,<-HATE.out];exact hzx)) fl HCD.out);clear hzx;refine wp_region_held_drew (S:=fun w'=>w'.cell? (⟨g,a,none⟩)=some (.int .u64 (x:Int))/\w'.cell? (⟨g,b,none⟩)=some (.int .u64 (y:Int))) (by kernel_rfl) ⟨xc gl ca,xc gl cb⟩ (fun hHeld=> ?_);refine tk 0 hHeld ?_;refine tk 1 hHeld ?_;refine tk 2 hHeld ?_;refine tk 3 hHeld ?_;refine tk 4 hHeld ?_;refine tk 5 hHeld ?_;refine tk 6 hHeld ?_;refine tk 7 hHeld ?_;refine tk 8 hHeld ?_;refine tk 9 hHeld ?_;refine tk 10 hHeld ?_;refine wpAnyH_done (by kernel_rfl) ?_ _;go_wp2_with fail;go_roundw
        case rel=>exact⟨b+1,by go_num,by omega,fl,rfl,Qq ⟨out,⟨HS.out.ext.trans (HXW1.out.trans Qz.drew),HS.out.row.ext (HXW1.out.trans Qz.drew),HS.out.grw⟩,HP.out,HZ1.out,HZ2.out⟩⟩
        case measure=>simp [intOf];omega
       have hne:((z:Int) !=(x:Int))=true:=by simp;omega
       have HST:=Qq (HS.out.grw.step hlt2 hlt3 (by rw [<-HXE.out];exact HTB.out.symm) (by rw [<-HZE.out,<-HATE.out];exact hzx));rw [<-HZE.out]at HST;clear hzx;refine wp_region_held_drew (S:=fun w'=>w'.cell? (⟨g,a,none⟩)=some (.int .u64 (x:Int))/\w'.cell? (⟨g,b,none⟩)=some (.int .u64 (y:Int))) (by kernel_rfl) ⟨xc gl ca,xc gl cb⟩ (fun hHeld=> ?_);refine tk 0 hHeld ?_;refine tk 1 hHeld ?_;refine tk 2 hHeld ?_;refine tk 3 hHeld ?_;refine tk 4 hHeld ?_;refine tk 5 hHeld ?_;refine tk 6 hHeld ?_;refine tk 7 hHeld ?_;refine tk 8 hHeld ?_;refine tk 9 hHeld ?_;refine tk 10 hHeld ?_;refine wpAnyH_done (by kernel_rfl) ?_ _
       have HXD:=Qq (HXW1.out.trans Qz.drew);have HRW:=Qq (((HS.out.row.ext HXD.out)).set HS.out.grw.len a z);go_wp2_with fail;go_roundw
       case rel=>exact⟨b+1,by go_num,by omega,true,rfl,Qq ⟨_,⟨(HS.out.ext.trans HXD.out).setCell (p:=⟨g,a,none⟩) hgb _,HRW.out,HST.out.1⟩,(fun e=>by cases e),Nat.le_of_lt (Qy HST.out.2 HZ1.out),fun _=>Qy HST.out.2 HZ1.out⟩⟩
       case measure=>simp [intOf];omega
      skip
      obtain⟨z,hz⟩:∃z,z=y|||x:=⟨_,rfl⟩;have hor:bits .or .u64 (y:Int) (x:Int)=(z:Int):=by rw [hz];exact Bd HWB.out HWA.out
      have HZE:=Qq (show z=out.getD (atG true a b) 0|||Ph true out a b by rw [hz,HXE.out,HYE.out];rfl);have HATE:=Qq (show y=out.getD (atG true a b) 0 from HYE.out);have gf:=HFR.out b;clear hz;go_upto_region 12 with(fail);refine wp_region_held_drew (S:=fun w'=>w'.cell? (⟨g,a,none⟩)=some (.int .u64 (x:Int))/\w'.cell? (⟨g,b,none⟩)=some (.int .u64 (y:Int))) (by kernel_rfl) ⟨xc gl ca,xc gl cb⟩ (fun hHeld=> ?_);refine tk 0 hHeld ?_;refine tk 1 hHeld ?_;refine tk 2 hHeld ?_;refine tk 3 hHeld ?_;refine tk 4 hHeld ?_;refine tk 5 hHeld ?_;refine tk 6 hHeld ?_;refine wpAnyH_done (by kernel_rfl) ?_ _;obtain⟨W1,hW1⟩:∃v,v=wr.drew:=⟨_,rfl⟩
      have HXW1:=Qq (show Ext wr W1 by rw [hW1];exact Qz.drew);rw [<-hW1];clear hW1;have ca:=(HXW1.out.cell (p:=⟨g,a,none⟩) gl).trans ca;have cb:=(HXW1.out.cell (p:=⟨g,b,none⟩) gl).trans cb;have gf:=(HXW1.out.frozen (p:=⟨g,b,none⟩) gl).trans gf;have gl:=Qy gl HXW1.out.size;go_upto_region 14 with(fail);refine wp_region_held_drew (S:=fun w'=>w'.cell? (⟨g,a,none⟩)=some (.int .u64 (x:Int))/\w'.cell? (⟨g,b,none⟩)=some (.int .u64 (y:Int))) (by kernel_rfl) ⟨xc gl ca,xc gl cb⟩ (fun hHeld=> ?_);refine tk 0 hHeld ?_;refine tk 1 hHeld ?_;refine tk 2 hHeld ?_;refine tk 3 hHeld ?_;refine tk 4 hHeld ?_;refine tk 5 hHeld ?_
      refine tk 6 hHeld ?_;refine wpAnyH_done (by kernel_rfl) ?_ _;obtain⟨W2,hW2⟩:∃v,v=W1.drew:=⟨_,rfl⟩;have HXW2:=Qq (show Ext W1 W2 by rw [hW2];exact Qz.drew);rw [<-hW2];clear hW2;have ca:=(HXW2.out.cell (p:=⟨g,a,none⟩) gl).trans ca;have cb:=(HXW2.out.cell (p:=⟨g,b,none⟩) gl).trans cb;have gf:=(HXW2.out.frozen (p:=⟨g,b,none⟩) gl).trans gf;have gl:=Qy gl HXW2.out.size;go_upto_region 15 with(fail);by_cases hzx:z=y
      ·have hne:((z:Int) !=(y:Int))=false:=by rw [hzx];simp
       have HP:=Qq (HNX.out (Qv1 (by rw [<-HZE.out,<-HATE.out];exact hzx)) fl HCD.out);clear hzx;refine wp_region_held_drew (S:=fun w'=>w'.cell? (⟨g,a,none⟩)=some (.int .u64 (x:Int))/\w'.cell? (⟨g,b,none⟩)=some (.int .u64 (y:Int))) (by kernel_rfl) ⟨xc gl ca,xc gl cb⟩ (fun hHeld=> ?_);refine tk 0 hHeld ?_;refine tk 1 hHeld ?_;refine tk 2 hHeld ?_;refine tk 3 hHeld ?_;refine tk 4 hHeld ?_;refine tk 5 hHeld ?_;refine tk 6 hHeld ?_;refine tk 7 hHeld ?_;refine tk 8 hHeld ?_;refine tk 9 hHeld ?_;refine tk 10 hHeld ?_;refine wpAnyH_done (by kernel_rfl) ?_ _;go_wp2_with fail;go_roundw
       case rel=>exact⟨b+1,by go_num,by omega,fl,rfl,Qq ⟨out,⟨HS.out.ext.trans ((HXW1.out.trans HXW2.out).trans Qz.drew),HS.out.row.ext ((HXW1.out.trans HXW2.out).trans Qz.drew),HS.out.grw⟩,HP.out,HZ1.out,HZ2.out⟩⟩
       case measure=>simp [intOf];omega
      have hne:((z:Int) !=(y:Int))=true:=by simp;omega
      have HST:=Qq (HS.out.grw.step hlt2 hlt3 (by rw [<-HXE.out];exact HTB.out.symm) (by rw [<-HZE.out,<-HATE.out];exact hzx));rw [<-HZE.out]at HST;clear hzx;refine wp_region_held_drew (S:=fun w'=>w'.cell? (⟨g,a,none⟩)=some (.int .u64 (x:Int))/\w'.cell? (⟨g,b,none⟩)=some (.int .u64 (y:Int))) (by kernel_rfl) ⟨xc gl ca,xc gl cb⟩ (fun hHeld=> ?_);refine tk 0 hHeld ?_;refine tk 1 hHeld ?_;refine tk 2 hHeld ?_;refine tk 3 hHeld ?_;refine tk 4 hHeld ?_;refine tk 5 hHeld ?_;refine tk 6 hHeld ?_;refine tk 7 hHeld ?_;refine tk 8 hHeld ?_;refine tk 9 hHeld ?_;refine tk 10 hHeld ?_;refine wpAnyH_done (by kernel_rfl) ?_ _
      have HXD:=Qq ((HXW1.out.trans HXW2.out).trans Qz.drew);have HRW:=Qq (((HS.out.row.ext HXD.out)).set HS.out.grw.len b z);go_wp2_with fail;go_roundw
      case rel=>exact⟨b+1,by go_num,by omega,true,rfl,Qq ⟨_,⟨(HS.out.ext.trans HXD.out).setCell (p:=⟨g,b,none⟩) hgb _,HRW.out,HST.out.1⟩,(fun e=>by cases e),Nat.le_of_lt (Qy HST.out.2 HZ1.out),fun _=>Qy HST.out.2 HZ1.out⟩⟩
      case measure=>simp [intOf];omega
     obtain rfl:n=b:=by omega
     go_wp2_with fail;go_roundw
     case rel=>exact⟨a+1,by go_num,by omega,fl,rfl,Qq ⟨out,HS.out,(fun e=>Be (P:=fun a'=>∀b,b < n->Fp eu out a' b) (HCD.out e).1 (HCD.out e).2),HZ1.out,HZ2.out⟩⟩
     case measure=>simp [intOf];omega
   obtain rfl:n=a:=by omega
   obtain⟨out,hs,hcd,hz1,hz2⟩:=HREL.out;have HS:=Qq hs;have HCD:=Qq hcd;have HZ1:=Qq hz1;have HZ2:=Qq hz2;have HZW:=Qq (Qy7 hs.row (by rw [hs.grw.len];exact h0));clear HREL hs hcd hz1 hz2;go_wp2_with fail;go_roundw
   case rel=>exact⟨fl,rfl,Qq ⟨out,HS.out,HCD.out⟩⟩
   case measure =>
    have h1:=HZ0.out;have h2:=HZW.out;have h3:=HZ1.out;cases fl
    ·show 2*Mw wr g n+0 < 2*Mw wp g n+1;omega
    show 2*Mw wr g n+1 < 2*Mw wp g n+1;have:=HZ2.out rfl;omega
theorem Qjp(v:Value)(l:List Nat)(w:World)(h:Ji w v l)(hw:∀s∈l,Zj s)(hv:Xb l=true)(h0:0 < l.length):
 Calls Tryz.prog 172 #[v] w fun e w'=>∃u,e=.returned (.tuple #[u,.int .i64 0])/\Ext w w'/\∃out,Jz w.heap.size w' u out/\(out=l↔Fk false l):=by
 have H:=Qq h;have HW:=Qq hw;obtain⟨hl64,hby⟩:=Ul.1 hv;have HV:=Qq (show Yb l.length l=0 by unfold Xb at hv;simpa using hv);obtain⟨A,c,rfl,_⟩:=h;clear hw hv;go_enter Tryz.func172,Tryz.ntmps172;go_wp2_with fail;refine(Tk _ l _ H.out HW.out).mono ?_;rintro e w2 ⟨rfl,hx2⟩;rw [HV.out];have HX2:=Qq hx2;clear hx2;go_wp2_with fail;refine(Qga false _ l _ (H.out.ext HX2.out) hl64 hby h0).mono ?_;rintro e w3 ⟨u,rfl,hx3,out,hm,hiff⟩;have HX3:=Qq (HX2.out.trans hx3);have HM:=Qq (show Jz w.heap.size w3 u out from Xk hm HX2.out.size);have HI:=Qq hiff;clear hx3 hm hiff;go_wp2_with fail
 go_ret2;exact⟨u,rfl,HX3.out,out,HM.out,HI.out⟩
theorem Qj8(v:Value)(l:List Nat)(w:World)(h:Ji w v l)(hw:∀s∈l,Zj s)(hv:Xb l=true)(h0:0 < l.length):
 Calls Tryz.prog 173 #[v] w fun e w'=>∃u,e=.returned (.tuple #[u,.int .i64 0])/\Ext w w'/\∃out,Jz w.heap.size w' u out/\(out=l↔Fk true l):=by
 have H:=Qq h;have HW:=Qq hw;obtain⟨hl64,hby⟩:=Ul.1 hv;have HV:=Qq (show Yb l.length l=0 by unfold Xb at hv;simpa using hv);obtain⟨A,c,rfl,_⟩:=h;clear hw hv;go_enter Tryz.func173,Tryz.ntmps173;go_wp2_with fail;refine(Tk _ l _ H.out HW.out).mono ?_;rintro e w2 ⟨rfl,hx2⟩;rw [HV.out];have HX2:=Qq hx2;clear hx2;go_wp2_with fail;refine(Qga true _ l _ (H.out.ext HX2.out) hl64 hby h0).mono ?_;rintro e w3 ⟨u,rfl,hx3,out,hm,hiff⟩;have HX3:=Qq (HX2.out.trans hx3);have HM:=Qq (show Jz w.heap.size w3 u out from Xk hm HX2.out.size);have HI:=Qq hiff;clear hx3 hm hiff;go_wp2_with fail
 go_ret2;exact⟨u,rfl,HX3.out,out,HM.out,HI.out⟩
theorem Xm {w:World} {b:Nat} {a0 a1 a2:Value} {t:TypeId}(h:w.heap[b]?=some (.cells #[a0,a1,a2] t (0,0))):w.cell? ⟨b,0,none⟩=some a0/\w.cell? ⟨b,1,none⟩=some a1/\w.cell? ⟨b,2,none⟩=some a2/\b < w.heap.size :=
 ⟨by simp [World.cell?,h],by simp [World.cell?,h],by simp [World.cell?,h],Qm h⟩
theorem Qt0(v:Value)(md:Md)(z:Int)(w:World)(h:MdV w v md):
 Calls Tryz.prog 14 #[v,.int .i64 z] w fun e w'=>∃b,e=.returned (.bool b)/\Ext w w':=by
 obtain⟨vv,vr,rfl,hv,hr⟩:=h;obtain⟨Av,cv,rfl,_⟩:=hv;obtain⟨Ar,cr,rfl,_,_,HR⟩:=Dc hr;obtain⟨n,hn⟩:∃n,n=md.n:=⟨_,rfl⟩;rw [<-hn];clear hr hn;by_cases h1:z < n/\n<=64
 ·obtain⟨h2,h3⟩:=h1;go_enter Tryz.func14,Tryz.ntmps14;go_wp2_with fail;go_ret
  first|exact⟨_,rfl,Qz.alloc _⟩|exact⟨.inl rfl,Qz.alloc _⟩|exact⟨.inr rfl,Qz.alloc _⟩
 obtain⟨t,ht⟩:∃t,t=decide (z < n):=⟨_,rfl⟩;by_cases hz:z < n
 all_goals
  (try have h64:¬n<=64:=fun e=>h1 ⟨hz,e⟩)
  clear h1 ht;by_cases hv20:20 < md.val.length
  ·have hi:(20:Int) < (md.val.length:Int):=by omega
   go_enter Tryz.func14,Tryz.ntmps14;go_wp2_with fail;go_ret
   first|exact⟨_,rfl,Qz.alloc _⟩|exact⟨.inl rfl,Qz.alloc _⟩|exact⟨.inr rfl,Qz.alloc _⟩
  have hi20:¬(20:Int) < (md.val.length:Int):=by omega
  by_cases hr10:10 < md.rel.length
  ·have hi:(10:Int) < (md.rel.length:Int):=by omega
   go_enter Tryz.func14,Tryz.ntmps14;go_wp2_with fail;go_ret
   first|exact⟨_,rfl,Qz.alloc _⟩|exact⟨.inl rfl,Qz.alloc _⟩|exact⟨.inr rfl,Qz.alloc _⟩
  have hi10:¬(10:Int) < (md.rel.length:Int):=by omega
  generalize md.rel=rl at *;generalize md.val.length=vl at *;go_enter Tryz.func14,Tryz.ntmps14;go_upto_region 3 with(fail);obtain⟨W0,hW0⟩:∃W,W=w.alloc (.cells #[.int .i64 n,.slice Av vl cv,.slice Ar rl.length cr] 26):=⟨_,rfl⟩;have HX0:=Qq (show Ext w W0 by rw [hW0];exact Qz.alloc _);have HB:=Qq (show W0.heap[w.heap.size]?=some (.cells #[.int .i64 n,.slice Av vl cv,.slice Ar rl.length cr] 26 (0,0)) by rw [hW0];exact heap_alloc_new _ _);rw [<-hW0];clear hW0;obtain⟨b,hb⟩:∃b,b=w.heap.size:=⟨_,rfl⟩;rw [<-hb]at HB⊢;clear hb;go_wp2_with fail;go_loopw [5] (fun v wr=>∃k:Nat,v=.int .i64 (k:Int)/\k<=rl.length/\Hid (Ext W0 wr)) (fun v _=>rl.length - (intOf v).toNat)
  case atStart=>exact⟨0,rfl,Nat.zero_le _,Qq Qz⟩
  case round =>
   obtain⟨k,rfl,hk,HX⟩:=hrel;obtain⟨e0,e1,e2,eb⟩:=Xm ((HX.out.block (Qm HB.out)).trans HB.out);by_cases hlt2:k < rl.length
   ·have hk1:(k:Int) < (rl.length:Int):=by omega
    obtain⟨ad,u,rfl,hadl,hc,hu⟩:=HR.out k hlt2;obtain⟨Au,cu,rfl,_⟩:=hu;have a0:=((HX0.out.trans HX.out).cell (p:=ad.add k) (Qj hadl)).trans hc;have al:(ad.add k).block < wr.heap.size:=by rw [Qp];exact Qy hadl (HX0.out.trans HX.out).size
    generalize (rl.getD k []).length=q at a0;clear hc;by_cases hq:70 < q
    ·have hq1:(70:Int) < (q:Int):=by omega
     go_wp2_with fail;go_ret
     first|exact⟨_,rfl,HX0.out.trans HX.out⟩|exact⟨.inl rfl,HX0.out.trans HX.out⟩|exact⟨.inr rfl,HX0.out.trans HX.out⟩
    have hq1:¬(70:Int) < (q:Int):=by omega
    go_wp2_with fail;go_roundw
    case rel=>exact⟨k+1,by go_num,by omega,HX⟩
    case measure=>simp [intOf];omega
   obtain rfl:rl.length=k:=by omega
   go_wp2_with fail;go_ret
   first|exact⟨_,rfl,HX0.out.trans HX.out⟩|exact⟨.inl rfl,HX0.out.trans HX.out⟩|exact⟨.inr rfl,HX0.out.trans HX.out⟩
end Go.Proofs.YtkmclcmnoicagaaGreatDoor
