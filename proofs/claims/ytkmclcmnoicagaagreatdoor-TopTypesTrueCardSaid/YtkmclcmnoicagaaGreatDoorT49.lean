/- The laws of countermodels that need no reference (plain). -/
import Derived.Test.YtkmclcmnoicagaaGreatDoorT47
import Derived.Test.YtkmclcmnoicagaaGreatDoorT48
namespace Go.Proofs.YtkmclcmnoicagaaGreatDoor
set_option maxRecDepth 100000
set_option maxHeartbeats 128000000
theorem Qbp(n:Nd)(a:Int):Qo n a≠6:=by
 unfold Qo;cases !Jk n.op <;> cases !Qs (Qh n.op) n.x a|| !Qs (Qc n.op) n.y a <;> cases Zv n <;> cases Jg n <;> simp
theorem Cb:∀(l:List Nd) (a:Int),Jj l a≠6
 |[],_=>by show(0:Int)≠6;decide
 |n :: r,a=>by
  unfold Jj;cases Qo n a !=0
  ·exact Cb r _
  exact Qbp n a
theorem Qtr(l:List Nd):check l≠6:=by
 unfold check;cases decide (l.length=0)
 ·cases decide (200 < l.length)
  ·exact Cb l 0
  simp
 simp
theorem Qrq(lg:Int)(f:List Nd):Zd lg f≠6:=by
 unfold Zd;cases decide (lg < 0)||decide (6 < lg)
 ·unfold Qn;cases check f !=0
  ·cases Kl f
   ·cases decide ((Jd f).length=0)
    ·simp only [cond_false];rcases Qj3 (Jd f)with h|h <;> rw [h] <;> simp
    simp
   simp
  exact Qtr f
 simp
theorem Qxz {lg:Int} {f:List Nd} {md m:Md} {k:Nat}(h:Zzj lg f md k 14)(hg:Fm m lg)(hc:Jr m f=0):Fe m f=Zl m.n.toNat:=by
 obtain⟨hck,hcf,_,_⟩:=Ya hc;have hl:∃_:Zd lg (Jp f)=0,Kv lg (Jp f)=false:=by
  rcases h with⟨_,_,_,h⟩|⟨h,_⟩
  ·rcases h with⟨_,h⟩|⟨_,h,_⟩|⟨_,_,_,h⟩|⟨_,_,_,_,h⟩|⟨_,_,_,h1,h2,_⟩|⟨_,_,_,_,_,_,h⟩
   ·omega
   ·exact absurd hcf h
   ·omega
   ·rw [if_neg (Qrq _ _)]at h;have:=(Wt lg (Jp f)).2;omega
   ·exact⟨h1,h2⟩
   omega
  omega
 obtain⟨he,hl⟩:=hl;refine Qoa (Qkq hck f) fun i hi=> ?_
 refine(Pg hc ⟨i,hi⟩).2 (Classical.byContradiction fun hns=> ?_);have hs:=((Qnz (M:=Kd m) (w:=⟨i,hi⟩) (Sy he).ck).2).2 hns;have:=(Qkm (Sy he)).2 ⟨Kd m,Qdc hg,_,hs⟩;rw [hl]at this;cases this
def noH:Nd:=⟨4,0,0,0,0,0⟩
theorem Qjg {f:List Nd}(h:check (Jp f)=0):check f=0/\Ql (Jp f)=.one noH (Ql f):=
 unT (n:=noH) rfl rfl ⟨rfl,rfl,rfl,fun _=>rfl,fun _=>rfl⟩ rfl h
theorem Qcr {f:List Nd}(hc:check f=0)(hl:Kl f=false):Yw (Jh f) 15=true:=by
 rw [Vg];intro i hi;unfold Jh Kq at hi;rcases He _ _ _ hi with h|⟨n,hn,h⟩
 ·rw [Nat.zero_testBit]at h;cases h
 exact Qy1 (Nc hc hl n hn) h
theorem Qcn {f:List Nd}(h:check (Jp f)=0)(hl:Kl (Jp f)=false):Kl f=false:=by
 obtain⟨hc,ht⟩:=Qjg h;have:=(Qkj h).1 hl;rw [ht]at this;exact(Qkj hc).2 this.2
theorem Qwc {f:List Nd} {md:Md}(hb:(Qn (Jp f)).2=0)(hck:Zy md=0)(hf:Yg f md.rel.length md.val.length=true):Jr md f=0:=by
 obtain⟨h1,h2,_,_⟩:=Ra hb;have hc:=(Qjg h1).1;unfold Jr;rw [if_neg (by rw [hck];simp),if_neg (by rw [hc];simp),if_neg (by rw [Qcr hc (Qcn h1 h2)];simp),if_neg (by rw [hf];simp)]
theorem Qao {f:List Nd} {md:Md}(h:Jr md (Jp f)=0):Jr md f=0:=by
 obtain⟨hck,h1,h2,h3⟩:=Ya (Qgq.2 h);have hcn:=(Ya h).2.1;obtain⟨hc,ht⟩:=Qjg hcn;obtain⟨hw,_,hp,_⟩:=Jf hcn;obtain⟨c,hcd⟩:∃c,c=Qg (Jp f):=⟨_,rfl⟩;have hcc:Qg c=c:=by rw [hcd];exact Gd hcn
 rw [<-hcd]at h1 h2 h3 hp hw;have htc:tr c (c.length - 1)=.one noH (Ql f):=by
  rw [<-ht,<-Vc hcn,<-hcd];rfl
 obtain⟨n,hn⟩:∃n,c[c.length - 1]?=some n:=⟨_,List.getElem?_eq_getElem (by omega)⟩;rw [Vo (Ja h1) hn]at htc;obtain⟨hx,_⟩:=Ja h1 _ n hn;have hxy:Qh n.op=true/\tr c n.x.toNat=Ql f:=by
  unfold Yv at htc;cases hy:Qc n.op
  ·cases hx2:Qh n.op
   ·rw [hy,hx2]at htc;cases htc
   rw [hy,hx2]at htc;injection htc with _ h;exact⟨rfl,h⟩
  rw [hy]at htc;cases htc
 have hb:=hx hxy.1;have hk:n.x.toNat < c.length:=by omega
 have hsub:Jb c ((n.x.toNat:Nat):Int)=Qg f:=by rw [Fs h1 hk,hxy.2,Ko hc]
 have hfp:=Qzi (md:=md) h1 hcc h2 h3 hk;unfold Iw at hfp;rw [hsub,Bool.and_eq_true]at hfp;refine Qgq.1 ?_;unfold Jr;rw [if_neg (by rw [hck];simp),if_neg (by rw [Ky hc];simp),if_neg (by rw [hfp.1];simp),if_neg (by rw [hfp.2];simp)]
theorem Qwp {lg:Int} {f:List Nd} {md:Md}(he:Zd lg (Jp f)=0)(hl:Kv lg (Jp f)=false)(hg:Fm md lg)(hc:Jr md f=0):Fe md f=Zl md.n.toNat :=
 Qxz (md:=⟨0,[],[]⟩) (k:=0) (.inl ⟨by decide,rfl,rfl,.inr (.inr (.inr (.inr (.inl ⟨hg.lgr,(Ya hc).2.1,fun h=>by
  have:=(Zm (Sy he).ck).1
  omega,he,hl,rfl⟩))))⟩) hg hc
theorem Qwh {lg:Int} {f:List Nd} {md:Md} {k:Nat}(h:Bw lg (Jp f) md k):Jr md f=0/\(Fe md f).testBit k=false:=by
 have hc:=Qao h.ck;refine⟨hc,?_⟩;have hs:=((Qnz (M:=Kd md) (w:=⟨k,h.lt⟩) (Ya h.ck).2.1).2).1 (h.sat _ rfl);cases hb:(Fe md f).testBit k
 ·rfl
 exact absurd ((Pg hc ⟨k,h.lt⟩).1 hb) hs
def exG:List Nd:=De 1 Sf (Ur 0)
def exH:List Nd:=De 1 Sf Tp
def mdG:Md:=⟨3,[4],[[2,4,4]]⟩
theorem Ie:Jr mdG exG=0/\Fe mdG exG=6:=by decide+kernel
theorem Qdd:Zd 0 exH=0:=by kernel_rfl
theorem Qp1:Ql exH=.two ⟨13,0,0,1,0,0⟩ (.leaf ⟨1,0,0,0,0,0⟩) (.leaf ⟨2,0,0,0,0,0⟩):=by kernel_rfl
theorem Zzk:Qjt 0 exH=(true,0):=by
 have h:Kv 0 exH=true:=(Qkm (Sy Qdd)).2 ⟨⟨Unit,fun _ _ _=>False,fun _ _=>False⟩,fun _=>⟨fun h=>by omega,fun h=>by omega,fun h=>by omega,fun h=>by omega⟩,(),by
  rw [Qp1,Qdf rfl];intro i _ _;rw [Qqf];exact fun v h=>h.elim⟩
 rw [Qma Qdd,h]
open Go.RowKit
theorem okn(k i g:Int)(h0:0<=k)(h1:k<=1000)(hi:Yj i)(hg:Yj g):(⟨k,i,0,g,0,0⟩:Nd).ok:=Ux (Zq h0 h1) hi (Zq (by omega) (by omega)) hg (Zq (by omega) (by omega)) (Zq (by omega) (by omega))
theorem Ez:Yj 0:=Zq (by omega) (by omega)
theorem Qkl(w:World):
 Calls Tryz.prog 51 #[] w fun e w'=>∃u,e=.returned u/\Jl w w' u (Sf):=by
 go_enter Tryz.func51,Tryz.ntmps51;go_wp2_with fail;refine(Qvs ⟨1,0,0,0,0,0⟩ _ (Qyb 1 (by omega)) (okn 1 0 0 (by omega) (by omega) Ez Ez) rfl rfl).mono ?_;rintro e w1 ⟨u,rfl,hm⟩;rw [<-Ij]at hm;have HM:=Qq hm;clear hm;go_wp2_with fail;go_ret;exact⟨_,rfl,HM.out⟩
theorem Qsg(w:World):
 Calls Tryz.prog 53 #[] w fun e w'=>∃u,e=.returned u/\Jl w w' u Tp:=by
 go_enter Tryz.func53,Tryz.ntmps53;go_wp2_with fail;refine(Qvs ⟨2,0,0,0,0,0⟩ _ (Qyb 2 (by omega)) (okn 2 0 0 (by omega) (by omega) Ez Ez) rfl rfl).mono ?_;rintro e w1 ⟨u,rfl,hm⟩;rw [<-Qyz]at hm;have HM:=Qq hm;clear hm;go_wp2_with fail;go_ret;exact⟨_,rfl,HM.out⟩
theorem Qmt(a:Int)(ha:Yj a)(hh:Zn ⟨3,a,0,0,0,0⟩)(w:World):
 Calls Tryz.prog 52 #[.int .i64 a] w fun e w'=>∃u,e=.returned u/\Jl w w' u (Ur a):=by
 have HH:=Qq hh;have HA:=Qq ha;clear hh ha;go_enter Tryz.func52,Tryz.ntmps52;go_wp2_with fail;refine(Qvs ⟨3,a,0,0,0,0⟩ _ HH.out (okn 3 a 0 (by omega) (by omega) HA.out Ez) rfl rfl).mono ?_;rintro e w1 ⟨u,rfl,hm⟩;rw [show [(⟨3,a,0,0,0,0⟩:Nd)]=Ur a from((Rw (n:=⟨3,a,0,0,0,0⟩) rfl rfl HH.out).2).symm]at hm;have HM:=Qq hm;clear hm;go_wp2_with fail;go_ret;exact⟨_,rfl,HM.out⟩
theorem Ed(v:Value)(f:List Nd)(w:World)(h:Fml w v f):
 Calls Tryz.prog 19 #[v] w fun e w'=>∃u,e=.returned u/\Jl w w' u (Jp f):=by
 have H:=Qq h;obtain⟨A1,c1,rfl,_⟩:=Qa h;clear h;go_enter Tryz.func19,Tryz.ntmps19;go_wp2_with fail;refine(Qm3 ⟨4,0,0,0,0,0⟩ _ f _ (Qyb 4 (by omega)) (okn 4 0 0 (by omega) (by omega) Ez Ez) rfl rfl H.out).mono ?_;rintro e w1 ⟨u,rfl,hm⟩;have HM:=Qq hm;clear hm;go_wp2_with fail;go_ret;exact⟨_,rfl,HM.out⟩
theorem Qzv(a:Int)(ha:Yj a)(hh:Zn ⟨13,0,0,a,0,0⟩)(v1 v2:Value)(f g:List Nd)(w:World)(h1:Fml w v1 f)(h2:Fml w v2 g):
 Calls Tryz.prog 50 #[.int .i64 a,v1,v2] w fun e w'=>∃u,e=.returned u/\Jl w w' u (De a f g):=by
 have H1:=Qq h1;have H2:=Qq h2;have HH:=Qq hh;have HA:=Qq ha;clear hh ha;obtain⟨A1,c1,rfl,_⟩:=Qa h1;obtain⟨A2,c2,rfl,_⟩:=Qa h2;clear h1 h2;go_enter Tryz.func50,Tryz.ntmps50;go_wp2_with fail;refine(Qnc ⟨13,0,0,a,0,0⟩ _ _ f g _ HH.out (okn 13 0 a (by omega) (by omega) Ez HA.out) rfl rfl H1.out H2.out).mono ?_;rintro e w1 ⟨u,rfl,hm⟩;have HM:=Qq hm;clear hm;go_wp2_with fail;go_ret;exact⟨_,rfl,HM.out⟩
theorem Qy4 {w:World} {b:Nat} {B n:Nat} {l:List Nat}(h:Ji w (.slice (some ⟨B,0,none⟩) n n) l)(hB:B≠b)(v0 v1 v2:Value):
 Ji (((w.setCell ⟨b,0,none⟩ v0).setCell ⟨b,1,none⟩ v1).setCell ⟨b,2,none⟩ v2) (.slice (some ⟨B,0,none⟩) n n) l:=by
 obtain⟨A,c,e,hlc,hcm,H⟩:=h;refine⟨A,c,e,hlc,hcm,fun hne=> ?_⟩;obtain⟨ad,e1,hb,hc⟩:=H hne;injection e with e2 _ _;rw [e1]at e2;injection e2 with e2;refine⟨ad,e1,by simpa [World.setCell]using hb,fun k z hk=> ?_⟩;have:=hc k z hk;unfold World.cell? at this⊢;rw [Mq (by rw [Qp,<-e2];exact hB)];exact this
theorem Qr7 {w:World} {n:Int} {sv si:Value} {B:Nat} {v r:List Nat}(hv:Ji w sv v)(hr:Ji w si r)(hB:B < w.heap.size)(hc:w.cell? ⟨B,0,none⟩=some si):MdV w (.agg #[.int .i64 n,sv,.slice (some ⟨B,0,none⟩) 1 1]) ⟨n,v,[r]⟩:=
 ⟨_,_,rfl,hv,_,1,rfl,Nat.le_refl _,by decide,fun _=>⟨_,rfl,hB,fun k s hk=>by
  obtain⟨rfl,rfl⟩:k=0/\s=r:=by
   cases k with
   |zero=>exact⟨rfl,by simpa using hk.symm⟩
   |succ k=>simp at hk
  exact⟨_,hc,hr⟩⟩⟩
theorem Qnr(w:World):Calls Tryz.prog 49 #[] w fun e w'=>∃u,e=.returned u/\MdV w' u mdG/\Ext w w':=by
 obtain⟨W0,hW0⟩:∃z,z=w.alloc (.cells #[.int .i64 0,.slice none 0 0,.slice none 0 0] 26):=⟨_,rfl⟩;obtain⟨b,hb⟩:∃z,z=w.heap.size:=⟨_,rfl⟩;have X0:=Qq (show Ext w W0 by rw [hW0];exact Qz.alloc _);have B0:=Qq (show W0.heap[b]?=some (.cells #[.int .i64 0,.slice none 0 0,.slice none 0 0] 26 (0,0)) by rw [hW0,hb];exact heap_alloc_new _ _);have HLO:=Qq (show w.heap.size<=b by omega);go_enter Tryz.func49,Tryz.ntmps49;go_upto_region 1 with(fail);rw [<-hW0,<-hb];clear hW0 hb;obtain⟨W3,hW3⟩:∃z,z=((W0.alloc (.cells #[.int .u64 4] 41)).alloc (.cells #[.int .u64 2,.int .u64 4,.int .u64 4] 41)).alloc (.cells #[.slice (some ⟨W0.heap.size+1,0,none⟩) 3 3] 23):=⟨_,rfl⟩
 have L3:=Qq (show Ji W3 (.slice (some ⟨W0.heap.size,0,none⟩) 1 1) [4]/\Ji W3 (.slice (some ⟨W0.heap.size+1,0,none⟩) 3 3) [2,4,4]/\W3.heap[W0.heap.size+1+1]?=some (.cells #[.slice (some ⟨W0.heap.size+1,0,none⟩) 3 3] 23 (0,0)) by
  rw [hW3];refine⟨(Qf4 rfl [4] (by decide)).ext ((Qz.alloc _).alloc _),(Qf4 (w:=W0.alloc (.cells #[.int .u64 4] 41)) (by simp) [2,4,4] (by decide)).ext (Qz.alloc _),?_⟩;have h1:=heap_alloc_new ((W0.alloc (.cells #[.int .u64 4] 41)).alloc (.cells #[.int .u64 2,.int .u64 4,.int .u64 4] 41)) (.cells #[.slice (some ⟨W0.heap.size+1,0,none⟩) 3 3] 23)
  simpa using h1)
 have E3:=Qq (show Ext W0 W3 by rw [hW3];exact((Qz.alloc _).alloc _).alloc _);have B3:=Qq ((E3.out.block (Qm B0.out)).trans B0.out);obtain⟨⟨q0,q1,q2⟩,-,ql⟩:=Gf B0.out;obtain⟨⟨g0,g1,g2⟩,⟨f0,f1,f2⟩,fl⟩:=Gf B3.out;rw [hW3]at g0 g1 g2 f0 f1 f2 fl;obtain⟨s0,hs0⟩:∃z,z=W0.heap.size:=⟨_,rfl⟩;have HS0:=Qq (show b < s0 by rw [hs0];exact Qm B0.out);rw [<-hs0]at L3;have HMD:=Qq (show MdV (((W3.setCell ⟨b,0,none⟩ (.int .i64 3)).setCell ⟨b,1,none⟩ (.slice (some ⟨s0,0,none⟩) 1 1)).setCell ⟨b,2,none⟩ (.slice (some ⟨s0+1+1,0,none⟩) 1 1)) (.agg #[.int .i64 3,.slice (some ⟨s0,0,none⟩) 1 1,.slice (some ⟨s0+1+1,0,none⟩) 1 1]) mdG from by
  have h1:=HS0.out;refine Qr7 (Qy4 L3.out.1 (by omega) _ _ _) (Qy4 L3.out.2.1 (by omega) _ _ _) (by simp only [World.setCell,Array.size_modify];exact Qm L3.out.2.2) ?_;unfold World.cell?;rw [Mq (show s0+1+1≠b by omega),L3.out.2.2]
  rfl)
 go_wp2_with fail;rw [<-hW3,<-hs0];clear hW3 hs0
 (try simp only [Exit.inBlock,Exit.then])
 refine bodyPost_ret (Oa Tryz.results49 _ _ rfl (Gs (Ls B3.out _ _ _)) Tryz.underlying26 rfl (by kernel_rfl)) rfl ?_;exact⟨_,rfl,HMD.out,Py (X0.out.trans E3.out) HLO.out _ _ _⟩
theorem Qsn:((orL [2,4,4] (Kr 1):Nat):Int)=2/\((orL [2,4,4] (Kr 2):Nat):Int)=4/\((orL [2,4,4] (Kr 6):Nat):Int)=4/\bits .and .u64 1 ((Zl 3:Nat):Int)=1/\bits .or .u64 2 4=6/\bits .or .u64 6 4=6/\Yb 3 [2,4,4]=0:=by decide+kernel
theorem Qhy(v:Value)(w:World)(hT:Uj w)(h:Ji w v [2,4,4]):Calls Tryz.prog 54 #[v,.int .u64 1] w fun e w'=>e=.returned (.int .u64 6)/\Ext w w':=by
 have HT:=Qq hT;have H:=Qq h;obtain⟨A,c,rfl,_⟩:=h;obtain⟨r1,r2,r3,r4,r5,r6,r7⟩:=Qsn;have HV:=Qq (And.intro r1 (And.intro r2 r3));have HC:=Qq r7;have hw:∀s∈ [2,4,4],Zj s:=by
  intro s hs;have h1:s=2\/s=4:=by simpa using hs
  rcases h1 with rfl|rfl <;>(show(_:Nat) < 18446744073709551616;decide)
 have HW:=Qq hw;have HM:=Qq (fun s W (hx:Ext w W) (hs:Zj s) (hin:∀i,s.testBit i=true->i < 3)=>Qr6 _ [2,4,4] s W (H.out.ext hx) hw hs hin (HT.out.ext hx));clear hT r1 r2 r3 r7 hw;go_enter Tryz.func54,Tryz.ntmps54;go_wp2_with fail;refine(Dr _ [2,4,4] _ H.out HW.out).mono ?_;rintro e w1 ⟨rfl,hx⟩;rw [show Yb [2,4,4].length [2,4,4]=0 from HC.out];have X1:=Qq hx;clear hx;go_wp2_with fail;refine(Lb 3 (by decide) _).mono ?_;rintro e w2 ⟨rfl,rfl⟩;go_wp2_with fail;refine(HM.out 1 _ X1.out (show(1:Nat) < 18446744073709551616 by decide) (fun i hi=>by have:=Vm (show 1 < 2^1 by decide) hi;omega)).mono ?_
 rintro e w3 ⟨rfl,hx⟩;rw [HV.out.1];have X3:=Qq (X1.out.trans hx);clear hx;go_wp2_with fail;go_loopw [5] (fun v wr=>∃o:Nat,v=.int .u64 (o:Int)/\(o=2\/o=6)/\Hid (Ext w wr)) (fun v _=>10 - (intOf v).toNat)
 case atStart=>exact⟨2,rfl,.inl rfl,Qq X3.out⟩
 case round =>
  obtain⟨o,rfl,ho,HREL⟩:=hrel;have XR:=Qq HREL.out;clear HREL;rcases ho with rfl|rfl
  ·go_wp2_with fail;refine(HM.out 2 _ XR.out (show(2:Nat) < 18446744073709551616 by decide) (fun i hi=>by have:=Vm (show 2 < 2^2 by decide) hi;omega)).mono ?_;rintro e w4 ⟨rfl,hx⟩;rw [HV.out.2.1];have X4:=Qq (XR.out.trans hx);clear hx;go_wp2_with fail;go_roundw
   case rel=>exact⟨6,rfl,.inr rfl,Qq X4.out⟩
   case measure=>decide
  go_wp2_with fail;refine(HM.out 6 _ XR.out (show(6:Nat) < 18446744073709551616 by decide) (fun i hi=>by have:=Vm (show 6 < 2^3 by decide) hi;omega)).mono ?_;rintro e w4 ⟨rfl,hx⟩;rw [HV.out.2.2];have X4:=Qq (XR.out.trans hx);clear hx;go_wp2_with fail;go_ret;exact⟨rfl,X4.out⟩
end Go.Proofs.YtkmclcmnoicagaaGreatDoor
