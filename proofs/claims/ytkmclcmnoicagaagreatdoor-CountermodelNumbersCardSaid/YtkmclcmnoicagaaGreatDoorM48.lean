/- What a negation normal form says: the same as the formula, or the opposite. Plain. -/
import Derived.Test.YtkmclcmnoicagaaGreatDoorM01
import Derived.Test.YtkmclcmnoicagaaGreatDoorM17
import Derived.Test.YtkmclcmnoicagaaGreatDoorM13
import Derived.Test.YtkmclcmnoicagaaGreatDoorM37
import Derived.Test.YtkmclcmnoicagaaGreatDoorM20
import Derived.Test.YtkmclcmnoicagaaGreatDoorM23
import Derived.Test.YtkmclcmnoicagaaGreatDoorM39
import Derived.Test.YtkmclcmnoicagaaGreatDoorM47
import Derived.Test.YtkmclcmnoicagaaGreatDoorM43
import Derived.Test.YtkmclcmnoicagaaGreatDoorM14
namespace Go.Proofs.YtkmclcmnoicagaaGreatDoor
set_option maxRecDepth 100000
set_option maxHeartbeats 128000000
theorem unT {n:Nd} {f:List Nd}(h1:Qe n.op=true)(h2:Qh n.op=false)(hh:Zp n)(hn:n.head=n)(h:check (Yp n [f])=0):check f=0/\Qp (Yp n [f])=.one n (Qp f):=by
 by_cases hf:check f=0
 ·refine⟨hf,?_⟩;have e:=Qy1 hf h1 h2 hh;rw [hn]at e;have hd:(Tr.one n (Qp f)).ok:=⟨h1,h2,hn,Qxc hf⟩;by_cases hl:(Qn (.one n (Qp f))).length<=200
  ·rw [e,Xn hl];exact Vc hd
  rw [e,Kp (by omega)]at h;exact absurd h Dh
 rw [Qyi hf]at h;exact absurd h Dh
section
variable {M:KM} {w:M.W} {f g:List Nd}
theorem Qwh(h:check (Jj f)=0):check f=0/\(M.sat (Qp (Jj f)) w↔¬M.sat (Qp f) w):=by
 obtain⟨h1,e⟩:=unT (n:=⟨4,0,0,0,0,0⟩) rfl rfl ⟨rfl,rfl,rfl,fun _=>rfl,fun _=>rfl⟩ rfl h;exact⟨h1,by rw [show Qp (Jj f)=_ from e];simp [KM.sat]⟩
end
open Go.RowKit
def Qo3(w:World)(lg:Int)(f:List Nd)(e:Ending)(w':World):Prop :=
 Ext w w'/\∃v,e=.returned (.tuple #[v,.int .i64 (Dt lg f)])/\(Dt lg f≠0->Elm w' v 0 [] [])/\(Dt lg f=0->Elm w' v lg ((Fd lg f).2.map Prod.fst) ((Fd lg f).2.map Prod.snd))
theorem Qvh {lg:Int} {f:List Nd}(h:Zr lg f≠0):Dt lg f=Zr lg f:=by
 unfold Dt;rw [show(Zr lg f !=0)=true by simpa using h];rfl
theorem Qxr {lg:Int} {f:List Nd}(h:Zr lg f=0):Dt lg f=bif Kt lg f then 15 else 0:=by
 unfold Dt;rw [show(Zr lg f !=0)=false by simpa using h];rfl
theorem Ww(lg:Int)(v:Value)(f:List Nd)(w:World)(h:Fml w v f):
 Calls Tryz.prog 20 #[.int .i64 lg,v] w (Qo3 w lg f):=by
 have H:=Qq h;obtain⟨Af,cf,rfl,_⟩:=Qm h;clear h;have HW0:=Qq (show(w.alloc (.cells #[.int .i64 0,.slice none 0 0,.slice none 0 0] 38)).heap[w.heap.size]?=some (.cells #[.int .i64 0,.slice none 0 0,.slice none 0 0] 38 (0,0))from heap_alloc_new _ _);have HX0:=Qq (show Ext w (w.alloc (.cells #[.int .i64 0,.slice none 0 0,.slice none 0 0] 38))from Qz.alloc _);obtain⟨er,her⟩:∃er,er=Zr lg f:=⟨_,rfl⟩;have HER:=Qq her;by_cases hz:er=0
 ·subst hz;have HA:=Qq (Qnb (Lr her.symm));clear her;go_enter Tryz.func20,Tryz.ntmps20;go_wp2_with fail;refine(Nb lg _ f _ (H.out.ext HX0.out)).mono ?_;rintro e w1 ⟨hx1,hr⟩;obtain⟨b,g,rfl,hb,hg,hE⟩:=(hr.resolve_left (fun h=>h.1 HER.out.symm)).2;have HE:=Qq hE;have HX1:=Qq hx1;have HGB:=Qq (show w.heap.size < g by simp at hg;omega);clear hr hb hg hE hx1;go_wp2_with fail;refine(Og b g lg _ _ _ _ _ _ HE.out HA.out.lgr HA.out.le HA.out.len (fun k hk=>⟨(HA.out.ks k hk).1,by rw [(HA.out.ks k hk).2,HA.out.al];exact Nat.le_refl _⟩) (fun c hc=>by have:=HA.out.cs c hc;rw [HA.out.al];exact this)).mono ?_
  rintro e w2 ⟨vt,vw,rfl,hgr,hE2,ht,hw⟩;obtain⟨s,hs⟩:∃s,s=Fd lg f:=⟨_,rfl⟩;have HS:=Qq hs;rw [show Qqi lg (Zb (Qr f).1) (Jf (Qr f).1) (Qr f).1.length (Vo lg (Qr f).1)=s from hs.symm]at hE2 ht hw;obtain⟨At,ct,rfl⟩:=Qt ht;obtain⟨Aw,cw,rfl⟩:=Qt hw;have HT:=Qq ht;have HWR:=Qq hw;have HE2:=Qq hE2;have HB1:=Qq ((HX1.out.block (by simp)).trans HW0.out);have HB2:=Qq ((hgr.block w.heap.size (Qf HB1.out) (fun e=>by injection e with e;have:=HGB.out;omega)).trans HB1.out);have HX2:=Qq (show Ext w w2 from(HX0.out.trans HX1.out).grown hgr (fun k e=>by injection e with e;have:=HGB.out;omega))
  have HLO:=Qq (show w.heap.size < w1.heap.size from Qf HB1.out);have HLEN:=Qq (show(Fx f).length=s.1.length by rw [hs,Rk];exact HA.out.root);obtain⟨⟨q0,q1,q2⟩,⟨f0,f1,f2⟩,ql⟩:=Zt HB2.out;clear hgr hE2 ht hw hs;go_wp2_with fail;refine(Qgf b lg _ _ _ _ _ _ HE2.out.eng HLEN.out).mono ?_;rintro e w3 ⟨rfl,rfl⟩;have HL:=Qq (show Gd s.1 (Fx f)=Kt lg f by rw [HS.out];rfl);rw [HL.out];have HRE:=Qq (Qxr HER.out.symm);cases hl:Kt lg f
  ·have HR0:=Qq (show Dt lg f=0 by rw [HRE.out,hl];rfl);clear hl;go_wp2_with fail
   (try simp only [Exit.inBlock,Exit.then])
   have hx3:=Jc HX2.out (Nat.le_refl _) (.int .i64 lg) (.slice At s.2.length ct) (.slice Aw s.2.length cw);have h1:s.2.length=(s.2.map Prod.fst).length:=by rw [List.length_map]
   have h2:s.2.length=(s.2.map Prod.snd).length:=by rw [List.length_map]
   have ht3:=Zs (w':=(((w2.setCell ⟨w.heap.size,0,none⟩ (.int .i64 lg)).setCell ⟨w.heap.size,1,none⟩ (.slice At s.2.length ct)).setCell ⟨w.heap.size,2,none⟩ (.slice Aw s.2.length cw))) HT.out (fun k hk=>Vd (by have:=(HT.out.lt k hk).1;have:=HLO.out;omega) _ _ _);have hw3:=Zs (w':=(((w2.setCell ⟨w.heap.size,0,none⟩ (.int .i64 lg)).setCell ⟨w.heap.size,1,none⟩ (.slice At s.2.length ct)).setCell ⟨w.heap.size,2,none⟩ (.slice Aw s.2.length cw))) HWR.out (fun k hk=>Vd (by have:=(HWR.out.lt k hk).1;have:=HLO.out;omega) _ _ _);refine bodyPost_ret (Yv Tryz.results20 _ _ rfl (Zl (Jh HB2.out _ _ _)) Tryz.underlying38 rfl (by kernel_rfl)) rfl ?_
   refine⟨hx3,_,by rw [HR0.out] <;> rfl,fun h=>absurd HR0.out h,fun _=>⟨_,_,rfl,?_,?_⟩⟩
   ·rw [<-HS.out];exact Qd1 (by rw [<-h1];exact ht3)
   rw [<-HS.out];exact Qfw (by rw [<-h2];exact hw3)
  have HR0:=Qq (show Dt lg f=15 by rw [HRE.out,hl];rfl);clear hl;go_wp2_with fail
  (try simp only [Exit.inBlock,Exit.then])
  refine bodyPost_ret (Yv Tryz.results20 _ _ rfl (Zl (Jh HB2.out _ _ _)) Tryz.underlying38 rfl (by kernel_rfl)) rfl ?_;exact⟨Jc HX2.out (Nat.le_refl _) _ _ _,_,by rw [HR0.out] <;> rfl,fun _=>Qnf _,fun h=>by rw [HR0.out]at h;cases h⟩
 have HZ:=Qq hz;have HRE:=Qq (show Dt lg f=er by rw [Qvh (by rw [<-her];exact hz),her]);clear her;go_enter Tryz.func20,Tryz.ntmps20;go_wp2_with fail;refine(Nb lg _ f _ (H.out.ext HX0.out)).mono ?_;rintro e w1 ⟨hx1,hr⟩;obtain⟨_,rfl⟩:=hr.resolve_right (fun h=>HZ.out (HER.out.trans h.1));rw [<-HER.out];have HX1:=Qq hx1;have HB1:=Qq ((hx1.block (by simp)).trans HW0.out);obtain⟨⟨q0,q1,q2⟩,⟨f0,f1,f2⟩,ql⟩:=Zt HB1.out;clear hx1 hr;go_wp2_with fail
 (try simp only [Exit.inBlock,Exit.then])
 refine bodyPost_ret (Yv Tryz.results20 _ _ rfl (Zl (Jh HB1.out _ _ _)) Tryz.underlying38 rfl (by kernel_rfl)) rfl ?_;exact⟨Jc (HX0.out.trans HX1.out) (Nat.le_refl _) _ _ _,_,by rw [HRE.out] <;> rfl,fun _=>Qnf _,fun h=>absurd (HRE.out.symm.trans h) HZ.out⟩
def Qpt(s:Tr):Tr->Prop
 |.leaf n=>s=.leaf n
 |.one n a=>s=.one n a\/Qpt s a
 |.two n a b=>s=.two n a b\/Qpt s a\/Qpt s b
def Zj0:List (Int×Int):= [(6,5),(6,4),(4,2),(4,3),(5,3),(5,1),(2,1),(1,0),(3,0)]
theorem Qwl {lg:Int} {f:List Nd}(h:Zr lg f≠0):Nz lg f=(false,Zr lg f):=by
 unfold Nz;rw [show(Zr lg f !=0)=true by simpa using h];rfl
theorem Zqj {lg:Int} {f:List Nd}(h:Zr lg f=0):Nz lg f=(Kt lg f,0):=by
 unfold Nz;rw [show(Zr lg f !=0)=false by simpa using h];rfl
theorem Qyw(g:List Nd):(Vp g).2=0\/(Vp g).2=8:=by
 unfold Vp;cases((Yg g).flatMap Vv).any (fun u=>decide (u.length=0))||decide (12 < (((Yg g).flatMap Vv).foldl Xt (Yg g)).length)
 ·exact .inl rfl
 exact .inr rfl
theorem Qgy(n:Nd)(a:Int):0<=Zq n a/\Zq n a<=10:=by
 unfold Zq;cases !Yq n.op <;> cases !Qa (Qe n.op) n.x a|| !Qa (Qh n.op) n.y a <;> cases Ji n <;> cases Yb n <;> simp
theorem Pg:∀(l:List Nd) (a:Int),0<=Yj l a/\Yj l a<=10
 |[],_=>⟨Int.le_refl 0,show(0:Int)<=10 by decide⟩
 |n :: r,a=>by
  unfold Yj;cases Zq n a !=0
  ·exact Pg r _
  exact Qgy n a
theorem Qb9(l:List Nd):0<=check l/\check l<=10:=by
 unfold check;cases decide (l.length=0)
 ·cases decide (200 < l.length)
  ·exact Pg l 0
  simp
 simp
theorem Oi(lg:Int)(f:List Nd):0<=Zr lg f/\Zr lg f<=10:=by
 unfold Zr;cases decide (lg < 0)||decide (6 < lg)
 ·unfold Qr;cases check f !=0
  ·cases Up f
   ·cases decide ((Jg f).length=0)
    ·simp only [cond_false];rcases Qyw (Jg f)with h|h <;> rw [h] <;> simp
    simp
   simp
  exact Qb9 f
 simp
theorem Qwt(lg:Int)(v:Value)(f:List Nd)(w:World)(h:Fml w v f):
 Calls Tryz.prog 42 #[.int .i64 lg,v] w fun e w'=>e=.returned (.tuple #[.bool (Nz lg f).1,.int .i64 (Nz lg f).2])/\Ext w w':=by
 have H:=Qq h;obtain⟨Af,cf,rfl,_⟩:=Qm h;clear h;have hrg:=Oi lg f;obtain⟨er,her⟩:∃er,er=Zr lg f:=⟨_,rfl⟩;rw [<-her]at hrg;have HER:=Qq her;by_cases hz:er=0
 ·subst hz;have HSO:=Qq (Zqj (lg:=lg) her.symm);have HRO:=Qq (Qxr (lg:=lg) her.symm);clear her hrg;cases hl:Kt lg f
  ·rw [hl]at HSO HRO;clear hl;go_enter Tryz.func42,Tryz.ntmps42;go_wp2_with fail;refine(Ww lg _ f _ H.out).mono ?_;rintro e w1 ⟨hx1,u,rfl,hn,hy⟩;obtain⟨vt,vw,rfl,⟨At,ct,rfl,_⟩,⟨Aw,cw,rfl,_⟩⟩:=hy HRO.out;rw [HRO.out];have HX1:=Qq hx1;clear hx1 hn hy;go_wp2_with fail;go_ret2;exact⟨by rw [HSO.out] <;> rfl,HX1.out.alloc _⟩
  rw [hl]at HSO HRO;clear hl;go_enter Tryz.func42,Tryz.ntmps42;go_wp2_with fail;refine(Ww lg _ f _ H.out).mono ?_;rintro e w1 ⟨hx1,u,rfl,hn,hy⟩;obtain⟨vt,vw,rfl,⟨At,ct,rfl,_⟩,⟨Aw,cw,rfl,_⟩⟩:=hn (by rw [HRO.out];decide);rw [HRO.out];have HX1:=Qq hx1;clear hx1 hn hy;go_wp2_with fail;go_ret2;exact⟨by rw [HSO.out] <;> rfl,HX1.out.alloc _⟩
 have HZ:=Qq hz;have HSO:=Qq (Qwl (lg:=lg) (f:=f) (by rw [<-her];exact hz));have HRO:=Qq (show Dt lg f=er by rw [Qvh (by rw [<-her];exact hz),her]);rw [<-her]at HSO;have hz0:(er==0)=false:=by rw [beq_eq_false_iff_ne];exact hz
 have hz15:(er==15)=false:=by rw [beq_eq_false_iff_ne];omega
 clear her hrg hz;go_enter Tryz.func42,Tryz.ntmps42;go_wp2_with fail;refine(Ww lg _ f _ H.out).mono ?_;rintro e w1 ⟨hx1,u,rfl,hn,hy⟩;obtain⟨vt,vw,rfl,⟨At,ct,rfl,_⟩,⟨Aw,cw,rfl,_⟩⟩:=hn (by rw [HRO.out];exact HZ.out);rw [HRO.out];have HX1:=Qq hx1;clear hx1 hn hy;go_wp2_with fail;go_ret2;exact⟨by rw [HSO.out] <;> rfl,HX1.out.alloc _⟩
theorem Zqz {md:Md} {s:Nat}(_h:md.ok):(Mq md s).ok:=by
 have hl:=Qqz s;have h64:=Sc hl;unfold Mq
 split
 ·refine⟨show Yo ((Zc s).length:Int) by unfold Yo;omega,fun t ht=> ?_,fun r hr t ht=> ?_⟩
  ·obtain⟨_,_,rfl⟩:=List.mem_map.1 ht;exact Qy (Qzz _ _) h64
  obtain⟨_,_,rfl⟩:=List.mem_map.1 hr;obtain⟨_,_,rfl⟩:=List.mem_map.1 ht;exact Qy (Qzz _ _) h64
 exact⟨by unfold Yo;decide,(fun t ht=>by cases ht),fun r hr=>by cases hr⟩
theorem Qdt(n:Nd)(a:Int):Zq n a≠6:=by
 unfold Zq;cases !Yq n.op <;> cases !Qa (Qe n.op) n.x a|| !Qa (Qh n.op) n.y a <;> cases Ji n <;> cases Yb n <;> simp
theorem Ho:∀(l:List Nd) (a:Int),Yj l a≠6
 |[],_=>by show(0:Int)≠6;decide
 |n :: r,a=>by
  unfold Yj;cases Zq n a !=0
  ·exact Ho r _
  exact Qdt n a
theorem Qto(l:List Nd):check l≠6:=by
 unfold check;cases decide (l.length=0)
 ·cases decide (200 < l.length)
  ·exact Ho l 0
  simp
 simp
theorem Qy4(lg:Int)(f:List Nd):Zr lg f≠6:=by
 unfold Zr;cases decide (lg < 0)||decide (6 < lg)
 ·unfold Qr;cases check f !=0
  ·cases Up f
   ·cases decide ((Jg f).length=0)
    ·simp only [cond_false];rcases Qyw (Jg f)with h|h <;> rw [h] <;> simp
    simp
   simp
  exact Qto f
 simp
theorem Qx6 {lg:Int} {f:List Nd} {md m:Md} {k:Nat}(h:Hk lg f md k 14)(hg:Nk m lg)(hc:Yy m f=0):Gp m f=Zx m.n.toNat:=by
 obtain⟨hck,hcf,_,_⟩:=Ks hc;have hl:∃_:Zr lg (Jj f)=0,Kt lg (Jj f)=false:=by
  rcases h with⟨_,_,_,h⟩|⟨h,_⟩
  ·rcases h with⟨_,h⟩|⟨_,h,_⟩|⟨_,_,_,h⟩|⟨_,_,_,_,h⟩|⟨_,_,_,h1,h2,_⟩|⟨_,_,_,_,_,_,h⟩
   ·omega
   ·exact absurd hcf h
   ·omega
   ·rw [if_neg (Qy4 _ _)]at h;have:=(Oi lg (Jj f)).2;omega
   ·exact⟨h1,h2⟩
   omega
  omega
 obtain⟨he,hl⟩:=hl;refine Qo8 (Qk5 hck f) fun i hi=> ?_
 refine(Cc hc ⟨i,hi⟩).2 (Classical.byContradiction fun hns=> ?_);have hs:=((Qwh (M:=Ko m) (w:=⟨i,hi⟩) (Lr he).ck).2).2 hns;have:=(Qqk (Lr he)).2 ⟨Ko m,Qkk hg,_,hs⟩;rw [hl]at this;cases this
theorem Qdy {lg:Int} {f:List Nd} {md:Md} {k:Nat} {er:Int}(hc:check f=0)(h:Hk lg f md k er)(h8:er≠8):
 ((Nz lg (Jj f)).2≠0->er=(Nz lg (Jj f)).2)/\((Nz lg (Jj f)).2=0->(er==0)=(Nz lg (Jj f)).1/\(er==14)= !(Nz lg (Jj f)).1):=by
 have hbad:(lg < 0\/6 < lg)->Zr lg (Jj f)=1:=fun h=>by
  unfold Zr;rw [show(decide (lg < 0)||decide (6 < lg))=true by rcases h with h|h <;> simp [h]];rfl
 have hE:∀z,Zr lg (Jj f)=z->z≠0->Nz lg (Jj f)=(false,z):=fun z h1 h2=>by
  unfold Nz;rw [h1,show(z !=0)=true by simpa using h2];rfl
 have h0:Zr lg (Jj f)=0->Nz lg (Jj f)=(Kt lg (Jj f),0):=fun h1=>by
  unfold Nz;rw [h1];rfl
 rcases h with⟨_,_,_,h⟩|⟨h,_,_,h1,h2,_⟩
 ·rcases h with⟨h1,h⟩|⟨_,h,_⟩|⟨_,_,_,h⟩|⟨_,_,_,h1,h⟩|⟨_,_,_,h1,h2,h⟩|⟨_,_,_,_,_,_,h⟩
  ·rw [hE 1 (hbad h1) (by decide),h];exact⟨fun _=>rfl,fun h=>absurd h (by decide)⟩
  ·exact absurd hc h
  ·exact absurd h h8
  ·rw [if_neg (Qy4 _ _)]at h;rw [hE _ rfl h1,h];exact⟨fun _=>rfl,fun h=>absurd h h1⟩
  ·rw [h0 h1,h2,h];exact⟨fun h=>absurd rfl h,fun _=>⟨rfl,rfl⟩⟩
  exact absurd h h8
 rw [h0 h1,h2,h];exact⟨fun h=>absurd rfl h,fun _=>⟨rfl,rfl⟩⟩
theorem Qlj {lg:Int} {f:List Nd} {x:Md}(h:Sj lg f 2 x 0):∃n:Nat,1<=n/\n<=2/\x.n=(n:Int)/\cmN lg f x 0=0/\∀md k,Xk lg f md k->n<=md.n.toNat:=by
 rcases h with⟨h,_⟩|⟨_,_,_,_,_,_,n,k,h1,h2,_,rfl,h3,hN⟩
 ·exact absurd rfl h
 exact⟨n,h1,h2,rfl,h3,fun md k hc=>Qk6 hc hN.1⟩
theorem Qdx {lg:Int} {f:List Nd} {x:Md}(h:Sj lg f 2 x 6):∀md k,Xk lg f md k->2 < md.n.toNat:=fun md k hc=>by
 obtain⟨hck,hcf,hs,_⟩:=Ks hc.ck;rcases h with⟨_,_,h⟩|⟨h,_⟩
 ·rcases h with⟨_,h⟩|⟨_,⟨h,_⟩|⟨_,⟨h,_⟩|⟨_,⟨h,_⟩|⟨_,⟨_,h⟩|⟨_,_,h⟩⟩⟩⟩⟩
  ·omega
  ·exact absurd hcf h
  ·rw [hs]at h;cases h
  ·omega
  ·omega
  exact Qk6 (N:=3) hc h.1
 omega
theorem Qx9 {lg:Int} {f:List Nd} {x md':Md} {k' n:Nat}(hn:x.n=(n:Int))(h0:cmN lg f x 0=0)(hl:∀md k,Xk lg f md k->n<=md.n.toNat)(hs:Qv2 lg f x 0 md' k'):md'.n=x.n:=by
 rcases hs with⟨h,_⟩|⟨_,k,out,hk,hg,hs⟩
 ·exact absurd h0 h
 obtain⟨k2,hk2,hc⟩:=Kc.1 h0;obtain rfl:k2=k:=by omega
 obtain⟨h1,h2,_⟩:=Qvw hc hg hs;have:=hl _ _ h1;have:=(Zv h1.good.ck).1;omega
theorem Qm9 {lg wd:Int} {f:List Nd} {md md':Md} {k':Nat}(h0:cmN lg f md wd=0)(h8:md.n<=8)(hs:Qv2 lg f md wd md' k'):
 ∃n:Nat,md'.n=(n:Int)/\1<=n/\n<=8/\md'.n<=md.n/\md'.ok/\k' < n/\cmN lg f md' (k':Int)=0/\
  ∀v,v < n->v≠k'->Bc md' (2^n - 1 - 2^v)=0/\∀i:Nat,(Hc md' (2^n - 1 - 2^v))[i]?=some k'->cmN lg f (Mq md' (2^n - 1 - 2^v)) (i:Int)≠0:=by
 rcases hs with⟨h,_⟩|⟨_,k,out,rfl,hg,hs⟩
 ·exact absurd h0 h
 obtain⟨k2,hk2,hc⟩:=Kc.1 h0;obtain rfl:k2=k:=by omega
 obtain⟨h1,h2,h3⟩:=Qvw hc hg hs;obtain⟨h4,_⟩:=Zv h1.good.ck;obtain⟨n,hn⟩:=Int.eq_ofNat_of_zero_le (show 0<=md'.n by omega);have hnn:md'.n.toNat=n:=by omega
 have hk':k' < n:=by have:=h1.lt;omega
 refine⟨n,hn,by omega,by omega,h2,Ll h1.good.ck,hk',Kc.2 ⟨k',rfl,h1⟩,fun v hv hvk=> ?_⟩;have hd:2^n - 1 - 2^v=Jz (Zx n) (2^v):=Qp9 ⟨n,by omega⟩ ⟨v,by omega⟩ hv;have hE:Bc md' (Jz (Zx n) (2^v))=0:=by
  unfold Bc;rw [if_neg (by rw [h1.good.ck];simp),if_neg,if_neg]
  ·intro he;have:=Nl n v k';rw [he,decide_eq_true hk',decide_eq_false hvk]at this;simp at this
  rw [hnn,Bool.not_eq_false];exact Yd.2 fun i hi=>by
   rw [Nl,Bool.and_eq_true]at hi;rw [Vl];exact hi.1
 rw [hd];refine⟨hE,fun i hi=> ?_⟩;unfold Hc at hi;unfold Mq;rw [if_pos hE]at hi⊢;have:=h3 v i (by omega) hvk (by rw [hnn];exact hi);unfold Fy at this;rw [hnn]at this;exact this
end Go.Proofs.YtkmclcmnoicagaaGreatDoor
