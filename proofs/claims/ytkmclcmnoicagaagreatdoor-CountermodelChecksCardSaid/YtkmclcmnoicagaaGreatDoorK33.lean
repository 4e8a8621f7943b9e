/- The examples of the chapter on countermodels: what the functions come to (plain). -/
import Derived.Test.YtkmclcmnoicagaaGreatDoorK32
namespace Go.Proofs.YtkmclcmnoicagaaGreatDoor
set_option maxRecDepth 100000
set_option maxHeartbeats 128000000
def pF:List Nd:=Qkb 0
def f1A:List Nd:=Fo (Gc 0 pF) (Kq pF)
def tA:List Nd:=Qy7 (Gc 0 pF) pF
theorem Qtq {lg:Int} {f:List Nd} {md:Md} {k:Nat}(h1:Zi md f=0)(hk:k < md.n.toNat)(hg:Fd md lg)(hb:(Nv md f).testBit k=true):Uh lg f md k :=
 ⟨h1,hk,hg,fun w hw=>(He h1 w).1 (by rw [hw];exact hb)⟩
theorem Zz5:nbE 2 1 1 61=0:=by decide+kernel
theorem Zya:nbN 2 1 1 61=⟨2,[1],[[3,3]]⟩:=by unfold nbN;rw [if_pos Zz5];rfl
theorem Mp {i:Nat}(h:i < 2):i=0\/i=1:=by omega
theorem Zzh:Fd ⟨2,[1],[[3,3]]⟩ 6:=⟨by decide,by decide+kernel,fun r hr=>by
 obtain rfl:r= [3,3]:=by simpa using hr
 intro q hq;have TK:q=2\/q=4\/q=5:=by simpa [Gg]using hq
 rcases TK with rfl|rfl|rfl
 ·have h:Qk7 [3,3]:=fun i hi=>by rcases Mp hi with rfl|rfl <;> decide
  exact h
 ·have h:Xo false [3,3]:=fun w u hw hu _=>by rcases Mp hw with rfl|rfl <;> rcases Mp hu with rfl|rfl <;> decide
  exact h
 have h:Xo true [3,3]:=fun w u hw hu _=>by rcases Mp hw with rfl|rfl <;> rcases Mp hu with rfl|rfl <;> decide
 exact h⟩
theorem Zyl:Fd ⟨1,[1],[[1]]⟩ 6:=⟨by decide,by decide+kernel,fun r hr=>by
 obtain rfl:r= [1]:=by simpa using hr
 intro q hq;have TK:q=2\/q=4\/q=5:=by simpa [Gg]using hq
 have h0:∀i,i < [1].length->i=0:=fun i hi=>by simpa using hi
 rcases TK with rfl|rfl|rfl
 ·have h:Qk7 [1]:=fun i hi=>by rw [h0 i hi];decide
  exact h
 ·have h:Xo false [1]:=fun w u hw hu _=>by rw [h0 w hw,h0 u hu];decide
  exact h
 have h:Xo true [1]:=fun w u hw hu _=>by rw [h0 w hw,h0 u hu];decide
 exact h⟩
theorem ok1:Uh 6 pF ⟨1,[1],[[1]]⟩ 0:=Qtq (by decide+kernel) (by decide) Zyl (by decide+kernel)
def Zj5(lg:Int)(f:List Nd)(md md':Md)(k':Nat):Prop:=∃out,Mh md (2^0) out/\Lq lg f (Ji md (Jy out)) (Gz out 0) md' k'
theorem Zvg:Uh 6 pF ⟨2,[1],[[3,3]]⟩ 0:=Qtq (by decide+kernel) (by decide) Zzh (by decide+kernel)
theorem Qmc:Nj ⟨2,[1],[[3,3]]⟩ 1=⟨1,[1],[[1]]⟩:=by
 unfold Nj;rfl
theorem Qwi:Fg 1 1 1 0=⟨1,[0],[[0]]⟩:=rfl
theorem okK:Uh 0 f1A ⟨1,[0],[[0]]⟩ 0:=Qtq (by decide+kernel) (by decide) ⟨by decide,by decide+kernel,fun r _ q hq=>by cases hq⟩ (by decide+kernel)
theorem Qlz:lsA f1A=1/\lsF f1A=1:=by decide+kernel
theorem Ov:check tA=0/\(Kq tA).length≠0/\Yj 0 (Kq tA)=0/\Yj 2 (Kq tA)=0/\(Qm (Kq tA)).1.length<=6:=by decide+kernel
theorem Zyt:Mh ⟨2,[1],[[3,3]]⟩ (2^0) 3:=by
 have hb:∀i,(3:Nat).testBit i=true->i=0\/i=1:=fun i hi=>by
  have:=Ka (show 3 < 2^2 by decide) hi;omega
 refine⟨fun i hi=> ?_,fun a ha u hu v hv=> ?_,fun c h1 h2 i hi=> ?_⟩
 ·rw [Nat.testBit_two_pow,decide_eq_true_iff]at hi;rw [<-hi];decide
 ·have E5:a=0:=by have:a < 1:=ha;omega
  rw [E5]at hv;rcases hb u hu with rfl|rfl <;> exact hv
 have h0:c 0:=h1 0 (by decide);rcases hb i hi with rfl|rfl
 ·exact h0
 exact h2 0 (by decide) 0 h0 1 (by decide)
theorem Zj7:Ji ⟨2,[1],[[3,3]]⟩ (Jy 3)=⟨2,[1],[[3,3]]⟩:=rfl
theorem Zy2:Lq 6 pF ⟨2,[1],[[3,3]]⟩ 0 ⟨1,[1],[[1]]⟩ 0:=by
 refine .step (w:=1) (by decide) (by decide) (Dm.2 ⟨0,rfl,by rw [Qmc];exact ok1⟩) (fun u h1 h2=> ?_) ?_
 ·have:u < 2:=h2;omega
 rw [Qmc];exact .done fun w hw hk=>absurd (show w=0 by have:w < 1:=hw;omega) hk
theorem Qe2 {md':Md} {k':Nat}(h:Zj5 6 pF ⟨2,[1],[[3,3]]⟩ md' k'):md'=⟨1,[1],[[1]]⟩/\k'=0:=by
 obtain⟨out,hg,hs⟩:=h;obtain rfl:out=3:=hg.uniq Zyt;rw [Zj7]at hs;exact hs.uniq Zy2
theorem Qsl:Qe (Kq tA)=.one ⟨4,0,0,0,0,0⟩ (.two ⟨7,0,0,0,0,0⟩ (.one ⟨9,0,0,0,0,0⟩ (.leaf ⟨3,0,0,0,0,0⟩)) (.leaf ⟨3,0,0,0,0,0⟩)):=rfl
theorem Qpe:Uf 2 (Kq tA)=false:=by
 cases h:Uf 2 (Kq tA)
 ·rfl
 obtain⟨M,hM,w,hw⟩:=(Qg3 (Qql Ov.2.2.2.1)).1 h;rw [Qsl]at hw;simp [KM.sat]at hw;exact absurd (hw.1 w ((hM 0).refl (.inl rfl) w)) hw.2
theorem Zz1:Uf 0 (Kq tA)=true:=by
 refine(Qg3 (Qql Ov.2.2.1)).2 ⟨⟨Unit,fun _ _ _=>False,fun _ _=>False⟩,fun i=>⟨fun h=>(by rcases h with h|h <;> cases h),fun h=>(by rcases h with h|h|h <;> cases h),fun h=>absurd h.1 (by decide),fun h=>(by rcases h with h|h <;> cases h)⟩,(),?_⟩;rw [Qsl];simp [KM.sat]
theorem Qjg:Yk 1 (lsA f1A) (lsF f1A)=2/\Yk 2 (lsA f1A) (lsF f1A)=6/\check f1A=0/\Js (Jm f1A) 15=true:=by decide+kernel
theorem cmK:cmN 0 f1A (Fg 1 (lsA f1A) (lsF f1A) 0) 0=0:=by
 rw [Qlz.1,Qlz.2,Qwi];exact Dm.2 ⟨0,rfl,okK⟩
theorem Zzi {md:Md} {er:Int}(h:Ma 0 f1A 2 md er):er=0/\md=⟨1,[0],[[0]]⟩:=by
 have h2:(0:Nat) < 2^Yk 1 (lsA f1A) (lsF f1A):=Nat.two_pow_pos _;have hl:Yk (2:Int).toNat (lsA f1A) (lsF f1A)=6:=Qjg.2.1;rcases h with⟨_,_,h⟩|⟨h,_,_,_,_,_,n,k,hn,_,hk,rfl,_,hN⟩
 ·rcases h with⟨h,_⟩|⟨_,⟨h,_⟩|⟨_,⟨h,_⟩|⟨_,⟨h,_⟩|⟨_,⟨h,_⟩|⟨_,_,h⟩⟩⟩⟩⟩
  ·omega
  ·exact absurd Qjg.2.2.1 h
  ·rw [Qjg.2.2.2]at h;cases h
  ·omega
  ·omega
  exact absurd cmK (h.1 1 0 (by decide) (by decide) h2)
 rcases Nat.lt_or_ge 1 n with h1|h1
 ·exact absurd cmK (hN.1 1 0 (by decide) h1 h2)
 obtain rfl:n=1:=by omega
 rcases Nat.eq_zero_or_pos k with rfl|h3
 ·refine⟨h,?_⟩;rw [Qlz.1,Qlz.2,Qwi]
 exact absurd cmK (hN.2 0 h3)
theorem Zjs:Qe f1A=.two ⟨5,0,0,0,0,0⟩ (.one ⟨9,0,0,0,0,0⟩ (.leaf ⟨3,0,0,0,0,0⟩)) (.one ⟨4,0,0,0,0,0⟩ (.leaf ⟨3,0,0,0,0,0⟩)):=rfl
theorem Zz0 {md:Md} {er:Int}(h:Ma 2 f1A 2 md er):er=6:=by
 have hl:Yk (2:Int).toNat (lsA f1A) (lsF f1A)=6:=Qjg.2.1;rcases h with⟨_,_,h⟩|⟨_,_,_,_,_,_,n,k,_,_,_,_,hc,_⟩
 ·rcases h with⟨h,_⟩|⟨_,⟨h,_⟩|⟨_,⟨h,_⟩|⟨_,⟨h,_⟩|⟨_,⟨h,_⟩|⟨_,h,_⟩⟩⟩⟩⟩
  ·omega
  ·exact absurd Qjg.2.2.1 h
  ·rw [Qjg.2.2.2]at h;cases h
  ·omega
  ·omega
  exact h
 obtain⟨k0,_,zO⟩:=Dm.1 hc;have hs:=zO.sat ⟨k0,zO.lt⟩ rfl;have hr:=(Qr1 zO.good 0).refl (.inl rfl);rw [Zjs]at hs;simp [KM.sat]at hs;exact absurd (hs.1 _ (hr _)) hs.2
theorem Qh3 {md:Md} {k:Nat} {er:Int}(h:Qqj 2 tA md k er):er=14:=by
 rcases h with⟨_,_,_,h⟩|⟨_,_,_,_,h,_⟩
 ·rcases h with⟨h,_⟩|⟨_,h,_⟩|⟨_,_,h,_⟩|⟨_,_,_,h,_⟩|⟨_,_,_,_,_,h⟩|⟨_,_,_,_,h,_⟩
  ·omega
  ·exact absurd Ov.1 h
  ·exact absurd h Ov.2.1
  ·exact absurd Ov.2.2.2.1 h
  ·exact h
  rw [Qpe]at h;cases h
 rw [Qpe]at h;cases h
theorem Qh2 {md:Md} {k:Nat} {er:Int}(h:Qqj 0 tA md k er):er=0/\cmN 0 (Kq tA) md (k:Int)=0:=by
 rcases h with⟨_,_,_,h⟩|⟨h0,_,_,_,_,h⟩
 ·rcases h with⟨h,_⟩|⟨_,h,_⟩|⟨_,_,h,_⟩|⟨_,_,_,h,_⟩|⟨_,_,_,_,h,_⟩|⟨_,_,_,_,_,h,_⟩
  ·omega
  ·exact absurd Ov.1 h
  ·exact absurd h Ov.2.1
  ·exact absurd Ov.2.2.1 h
  ·rw [Zz1]at h;cases h
  have:=Ov.2.2.2.2;omega
 exact⟨h0,Dm.2 ⟨k,rfl,h⟩⟩
open Go.RowKit
theorem Qsf {w:World} {cs:List Value} {T:TypeId} {B:Nat}(hB:B=w.heap.size) {k:Nat} {z:Value}(h:cs[k]?=some z):(w.alloc (.cells cs.toArray T)).cell? ⟨B,k,none⟩=some z:=by
 subst hB;have:=Wn w cs.toArray T k z (by simpa using h)
 rwa [Fr]at this
theorem Ul {w:World} {B:Nat}(hB:B=w.heap.size)(l:List Nat)(h:l.length<=100):Jb (w.alloc (.cells (l.map fun(z:Nat)=>Value.int .u64 (z:Int)).toArray 41)) (.slice (some ⟨B,0,none⟩) l.length l.length) l :=
 ⟨_,_,rfl,Nat.le_refl _,by unfold maxLen;omega,fun _=>⟨_,rfl,by rw [hB];simp,fun k z hk=>by
  rw [Fr];exact Qsf hB (by rw [List.getElem?_map,hk];rfl)⟩⟩
theorem Qo2 {w:World} {B:Nat}(hB:B=w.heap.size)(l:List Nd)(h:l.length<=100)(hk:∀n∈l,n.ok):Fml (w.alloc (.cells (l.flatMap Nd.cells).toArray 71)) (.slice (some ⟨B,0,none⟩) l.length l.length) l:=by
 subst hB;have hl:(l.flatMap Nd.cells).length=l.length*6:=by
  clear h hk
  induction l with
  |nil=>rfl
  |cons a r ih=>rw [List.flatMap_cons,List.length_append,ih];show 6+_=_;simp;omega
 exact⟨Pb (base:=0) ⟨hl,.inr ⟨w.heap.size,l.length,(l.flatMap Nd.cells).toArray,rfl,Nat.zero_le _,heap_alloc_new _ _,Nat.le_refl _,by unfold maxLen;omega,by simpa using hl,by rw [List.take_of_length_le (by simp [hl])]⟩⟩,hk⟩
theorem Qik(w:World)(n:Int)(v r:List Nat)(hv:v.length<=100)(hr:r.length<=100):MdV (((w.alloc (.cells (v.map fun(z:Nat)=>Value.int .u64 (z:Int)).toArray 41)).alloc (.cells (r.map fun(z:Nat)=>Value.int .u64 (z:Int)).toArray 41)).alloc (.cells #[.slice (some ⟨w.heap.size+1,0,none⟩) r.length r.length] 23)) (.agg #[.int .i64 n,.slice (some ⟨w.heap.size,0,none⟩) v.length v.length,.slice (some ⟨w.heap.size+1+1,0,none⟩) 1 1]) ⟨n,v,[r]⟩:=
 ⟨_,_,rfl,(Ul rfl v hv).ext ((Qz.alloc _).alloc _),_,1,rfl,Nat.le_refl _,by decide,fun _=>⟨_,rfl,by simp,fun k s hk=>by
  obtain⟨rfl,rfl⟩:k=0/\s=r:=by
   cases k with
   |zero=>exact⟨rfl,by simpa using hk.symm⟩
   |succ k=>simp at hk
  exact⟨_,Qsf (cs:= [.slice (some ⟨w.heap.size+1,0,none⟩) s.length s.length]) (k:=0) (by simp) rfl,(Ul (w:=w.alloc (.cells (v.map fun(z:Nat)=>Value.int .u64 (z:Int)).toArray 41)) (by simp) s hr).ext (Qz.alloc _)⟩⟩⟩
theorem Zyw:pF= [⟨3,0,0,0,0,0⟩]:=by decide+kernel
theorem Rt(w:World):Calls Tryz.prog 73 #[] w fun e w'=>∃u,e=.returned u/\Fml w' u pF/\Ext w w':=by
 go_enter Tryz.func73,Tryz.ntmps73;go_wp2_with fail;go_ret;refine⟨_,rfl,?_,Qz.alloc _⟩;rw [Zyw];exact Qo2 rfl [⟨3,0,0,0,0,0⟩] (by decide) (fun n hn=>by
  obtain rfl:n=⟨3,0,0,0,0,0⟩:=by simpa using hn
  exact Fx (Zy (by decide) (by decide)) (Zy (by decide) (by decide)) (Zy (by decide) (by decide)) (Zy (by decide) (by decide)) (Zy (by decide) (by decide)) (Zy (by decide) (by decide)))
theorem Qj8(lg:Int)(v:Value)(f:List Nd)(w:World)(hT:Ky w)(h:Fml w v f):
 Calls Tryz.prog 37 #[.int .i64 lg,v] w fun e w'=>∃u md' k' er,e=.returned (.tuple #[u,.int .i64 ((k':Nat):Int),.int .i64 er])/\Qqj lg f md' k' er/\Ext w w'/\Frz (fun k=>k < w.heap.size) w' (fun W=>MdV W u md'):=by
 have HT:=Qq hT;have HF:=Qq h;obtain⟨Af,cf,rfl,_⟩:=Qh h;obtain⟨ck,zT⟩:∃z,z=check f:=⟨_,rfl⟩;have xV:=Qq zT;obtain⟨W0,zE⟩:∃W,W=w.alloc (.cells #[.int .i64 0,.slice none 0 0,.slice none 0 0] 26):=⟨_,rfl⟩;have X0:=Qq (show Ext w W0 by rw [zE];exact Qz.alloc _);obtain⟨b,hb⟩:∃b,b=w.heap.size:=⟨_,rfl⟩;have B0:=Qq (show W0.heap[b]?=some (.cells #[.int .i64 0,.slice none 0 0,.slice none 0 0] 26 (0,0)) by rw [zE,hb];exact heap_alloc_new _ _);have xT:=Qq (show w.heap.size<=b by omega);obtain⟨lo,vK⟩:∃z,z=decide (0<=lg/\lg<=6):=⟨_,rfl⟩;have mC:=Qq vK;clear hT h zT;go_enter Tryz.func37,Tryz.ntmps37
 go_upto_region 1 with(fail);rw [<-zE,<-hb];clear zE hb;go_wp2_with fail;refine(Ec lg _).mono ?_;rintro e w1 ⟨rfl,rfl⟩;rw [<-vK];clear vK;obtain⟨⟨r0,r1,r2⟩,⟨g0,g1,g2⟩,rl⟩:=Zc B0.out;cases lo
 ·have HS:=Qq (show Qqj lg f ⟨0,[],[]⟩ 0 1 from .inl ⟨by decide,rfl,rfl,.inl ⟨by have:=of_decide_eq_false mC.out.symm;omega,rfl⟩⟩);go_wp2_with fail
  (try simp only [Exit.inBlock,Exit.then])
  refine bodyPost_ret (Yh Tryz.results37 _ _ rfl (Ze (Yx B0.out _ _ _)) Tryz.underlying26 rfl (by kernel_rfl)) rfl ?_;exact⟨_,_,0,1,rfl,HS.out,Yv X0.out xT.out _ _ _,fun W _=>Gw _⟩
 have oO:=Qq (of_decide_eq_true mC.out.symm);clear r0 r1 r2 g0 g1 g2 rl mC;go_wp2_with fail;refine(Vh _ f _ (HF.out.ext X0.out).1).mono ?_;rintro e w2 ⟨rfl,hx⟩;rw [<-xV.out];have X2:=Qq (X0.out.trans hx);have B2:=Qq ((hx.block (Qf B0.out)).trans B0.out);obtain⟨⟨r0,r1,r2⟩,⟨g0,g1,g2⟩,rl⟩:=Zc B2.out;have S2:=Qq hx;clear hx;by_cases hz:ck=0
 case neg =>
  have zQ:(ck !=0)=true:=by simpa using hz
  have HS:=Qq (show Qqj lg f ⟨0,[],[]⟩ 0 ck from .inl ⟨hz,rfl,rfl,.inr (.inl ⟨oO.out,by rw [<-xV.out];exact hz,xV.out⟩)⟩);clear hz;go_wp2_with fail
  (try simp only [Exit.inBlock,Exit.then])
  refine bodyPost_ret (Yh Tryz.results37 _ _ rfl (Ze (Yx B2.out _ _ _)) Tryz.underlying26 rfl (by kernel_rfl)) rfl ?_;exact⟨_,_,0,ck,rfl,HS.out,Yv X2.out xT.out _ _ _,fun W _=>Gw _⟩
 subst hz;clear r0 r1 r2 g0 g1 g2 rl;go_wp2_with fail;refine(Cy _ f _ (HF.out.ext X2.out)).mono ?_;rintro e w3 ⟨u,rfl,rO⟩;have GU:=Qq rO.fml;obtain⟨An,cn,rfl,_⟩:=Qh rO.fml;have X3:=Qq (X2.out.trans rO.ext);have S3:=Qq (S2.out.trans rO.ext);have B3:=Qq ((S3.out.block (Qf B0.out)).trans B0.out);obtain⟨nf,CU⟩:∃z,z=Kq f:=⟨_,rfl⟩;have tW:=Qq CU;rw [<-CU]at GU⊢;clear rO CU;by_cases rH:nf.length=0
 ·have hq:((nf.length:Int)==0)=true:=by rw [rH];rfl
  have HS:=Qq (show Qqj lg f ⟨0,[],[]⟩ 0 8 from .inl ⟨by decide,rfl,rfl,.inr (.inr (.inl ⟨oO.out,xV.out.symm,by rw [<-tW.out];exact rH,rfl⟩))⟩);obtain⟨⟨r0,r1,r2⟩,⟨g0,g1,g2⟩,rl⟩:=Zc B3.out;clear rH;go_wp2_with fail
  (try simp only [Exit.inBlock,Exit.then])
  refine bodyPost_ret (Yh Tryz.results37 _ _ rfl (Ze (Yx B3.out _ _ _)) Tryz.underlying26 rfl (by kernel_rfl)) rfl ?_;exact⟨_,_,0,8,rfl,HS.out,Yv X3.out xT.out _ _ _,fun W _=>Gw _⟩
 have hq:((nf.length:Int)==0)=false:=by rw [beq_eq_false_iff_ne];omega
 have sW:=Qq (show(Kq f).length≠0 by rw [<-tW.out];exact rH);clear rH;go_wp2_with fail;refine(Qp8 lg _ nf _ GU.out).mono ?_;rintro e w4 ⟨hx,pE⟩;have S4:=Qq (S3.out.trans hx);have X4:=Qq (X0.out.trans S4.out);have K7:=Qq (GU.out.ext hx);have B4:=Qq ((S4.out.block (Qf B0.out)).trans B0.out);obtain⟨er,vG⟩:∃er,er=Yj lg nf:=⟨_,rfl⟩;have wU:=Qq (show er=Yj lg (Kq f) by rw [vG,tW.out]);have rL:=Qq vG;rw [<-vG]at pE;clear hx vG
 have OA:(∃ev,ev≠0/\e=.returned (.tuple #[.agg #[.int .i64 0,.slice none 0 0,.slice none 0 0],.int .i64 0,.int .i64 ev])/\Qqj lg f ⟨0,[],[]⟩ 0 (if ev=6 then 14 else ev))\/
  (er=0/\Uf lg nf=true/\∃vm md S,e=.returned (.tuple #[vm,.int .i64 0,.int .i64 0])/\MdV w4 vm md/\md.ok/\Qxv lg nf S md):=by
  rcases pE with⟨h0,he⟩|⟨h0,hl,he⟩|⟨h0,hl,hm⟩|⟨h0,hl,h6,he⟩
  ·exact .inl ⟨er,h0,he,.inl ⟨by split <;> omega,rfl,rfl,.inr (.inr (.inr (.inl ⟨oO.out,xV.out.symm,sW.out,by rw [<-wU.out];exact h0,by rw [<-wU.out]⟩)))⟩⟩
  ·exact .inl ⟨6,by decide,he,.inl ⟨by decide,rfl,rfl,.inr (.inr (.inr (.inr (.inl ⟨oO.out,xV.out.symm,sW.out,by rw [<-wU.out];exact h0,by rw [<-tW.out];exact hl,rfl⟩))))⟩⟩
  ·exact .inr ⟨h0,hl,hm⟩
  exact .inl ⟨8,by decide,he,.inl ⟨by decide,rfl,rfl,.inr (.inr (.inr (.inr (.inr ⟨oO.out,xV.out.symm,sW.out,by rw [<-wU.out];exact h0,by rw [<-tW.out];exact hl,by rw [<-tW.out];exact h6,rfl⟩))))⟩⟩
 clear pE;rcases OA with⟨ev,NS,rfl,qO⟩|⟨h0,hl,vm,md,S,rfl,rO,zO,XY⟩
 ·have lL:=Qq qO;have N2:=Qq NS;have X5:=Qq (X4.out.alloc (.cells #[.int .i64 0,.slice none 0 0,.slice none 0 0] 26));have B5:=Qq ((((Ext.refl w4).alloc (.cells #[.int .i64 0,.slice none 0 0,.slice none 0 0] 26)).block (Qf B4.out)).trans B4.out);obtain⟨w5,oQ⟩:∃z,z=w4.alloc (.cells #[.int .i64 0,.slice none 0 0,.slice none 0 0] 26):=⟨_,rfl⟩;clear qO NS;go_upto_region 10 with(fail);rw [<-oQ]at X5 B5⊢;clear oQ;obtain⟨⟨r0,r1,r2⟩,⟨g0,g1,g2⟩,rl⟩:=Zc B5.out;by_cases h6:ev=6
  ·subst h6;go_wp2_with fail;go_loopw [10,11] (fun v10 v11 wr=>v10=.int .i64 0/\v11=.int .i64 14/\wr=w5) (fun _ _ _=>0)
   case atStart=>exact⟨rfl,rfl,rfl⟩
   case round =>
    obtain⟨rfl,rfl,rfl⟩:=hrel;go_wp2_with fail
    (try simp only [Exit.inBlock,Exit.then])
    refine bodyPost_ret (Yh Tryz.results37 _ _ rfl (Ze (Yx B5.out _ _ _)) Tryz.underlying26 rfl (by kernel_rfl)) rfl ?_;exact⟨_,_,0,14,rfl,lL.out,Yv X5.out xT.out _ _ _,fun W _=>Gw _⟩
  have hq6:(ev==6)=false:=by rw [beq_eq_false_iff_ne];exact h6
  have Q4:(ev==0)=false:=by rw [beq_eq_false_iff_ne];exact N2.out
  rw [if_neg h6]at lL;clear h6;go_wp2_with fail;go_loopw [10,11] (fun v10 v11 wr=>v10=.int .i64 0/\v11=.int .i64 ev/\wr=w5) (fun _ _ _=>0)
  case atStart=>exact⟨rfl,rfl,rfl⟩
  case round =>
   obtain⟨rfl,rfl,rfl⟩:=hrel;go_wp2_with fail
   (try simp only [Exit.inBlock,Exit.then])
   refine bodyPost_ret (Yh Tryz.results37 _ _ rfl (Ze (Yx B5.out _ _ _)) Tryz.underlying26 rfl (by kernel_rfl)) rfl ?_;exact⟨_,_,0,ev,rfl,lL.out,Yv X5.out xT.out _ _ _,fun W _=>Gw _⟩
 subst h0;have HL:=Qq hl;have sO:=Qq rO;have tS:=Qq (Zyh rL.out.symm XY);obtain⟨vv,vr,rfl,⟨A,c,rfl,_⟩,⟨A',c',rfl,_⟩⟩:=rO;obtain⟨m1,uY⟩:∃z,z=md.val.length:=⟨_,rfl⟩;obtain⟨m2,xM⟩:∃z,z=md.rel.length:=⟨_,rfl⟩;obtain⟨m0,pI⟩:∃z,z=md.n:=⟨_,rfl⟩;have jW:=Qq pI;have oN:=Qq uY;have vU:=Qq xM;rw [<-pI,<-uY,<-xM]at sO⊢;obtain⟨w5,oQ⟩:∃z,z=w4.alloc (.cells #[.int .i64 m0,.slice A m1 c,.slice A' m2 c'] 26):=⟨_,rfl⟩;obtain⟨xb,wQ⟩:∃z,z=w4.heap.size:=⟨_,rfl⟩;have yE:=Qq (show Ext w4 w5 by rw [oQ];exact Qz.alloc _);have xD:=Qq (show w5.heap[xb]?=some (.cells #[.int .i64 m0,.slice A m1 c,.slice A' m2 c'] 26 (0,0)) by rw [oQ,wQ];exact heap_alloc_new _ _)
 have rU:=Qq (show b < xb by rw [wQ];exact Qf B4.out);have oX:=Qq (show xb < w5.heap.size from Qf xD.out);have FO:=Qq (show w4.heap.size<=xb by rw [wQ];exact Nat.le_refl _);have I5:=Qq (show w.heap.size<=xb by have:=xT.out;have:=rU.out;omega);clear hl zO XY pI uY xM;go_upto_region 10 with(fail);rw [<-oQ,<-wQ];clear oQ wQ;go_wp2_with fail;go_loopw [10,11] (fun v10 v11 wr=>v11=.int .i64 0/\∃kc:Nat,v10=.int .i64 (kc:Int)/\Hid (Ext w4 wr/\∃mdc A c A' c',wr.heap[xb]?=some (.cells #[.int .i64 mdc.n,.slice A mdc.val.length c,.slice A' mdc.rel.length c'] 26 (0,0))/\MdV wr (.agg #[.int .i64 mdc.n,.slice A mdc.val.length c,.slice A' mdc.rel.length c']) mdc/\Uh lg nf mdc kc)) (fun _ _ wr=>(intOf ((wr.cell? ⟨xb,0,none⟩).getD undef)).toNat)
 case atStart=>exact⟨rfl,0,rfl,Qq ⟨yE.out,md,A,c,A',c',by rw [<-jW.out,<-oN.out,<-vU.out];exact xD.out,by rw [<-jW.out,<-oN.out,<-vU.out];exact sO.out.ext yE.out,tS.out⟩⟩
 case round =>
  clear yE xD sO tS oX jW oN vU;obtain⟨rfl,kc,rfl,zY⟩:=hrel;obtain⟨hx,mdc,A,c,A',c',wT,rO,xI⟩:=zY.out;have HX:=Qq hx;have xD:=Qq wT;have sO:=Qq rO;have tS:=Qq xI;obtain⟨n,hn⟩:=Int.eq_ofNat_of_zero_le (show 0<=mdc.n by have:=(Zn xI.good.ck).1;omega);have HN:=Qq hn;obtain⟨m1,uY⟩:∃z,z=mdc.val.length:=⟨_,rfl⟩;obtain⟨m2,xM⟩:∃z,z=mdc.rel.length:=⟨_,rfl⟩;rw [hn,<-uY,<-xM]at xD sO;clear zY hx wT rO xI hn uY xM;obtain⟨e0,e1,e2,el⟩:=Zt xD.out;go_wp2_with fail;refine(Pc lg _ _ nf mdc (kc:Int) _ (HT.out.ext (X4.out.trans HX.out)) (K7.out.ext HX.out) sO.out (Qq5 tS.out.good.ck)).mono ?_
  rintro e w6 ⟨u,md',k',rfl,jC,uT,DW⟩;have sD:cmN lg nf mdc (kc:Int)=0:=Dm.2 ⟨kc,rfl,tS.out⟩;rw [sD];obtain⟨_,k0,out,aD,UJ,P9⟩:=jC.resolve_left (fun h=>h.1 sD);obtain rfl:k0=kc:=by omega
  have CL:=UJ.part tS.out;obtain⟨tO,gP,_,_⟩:=P9.ok CL.1;have pS:=Qq tO;have YX:=Qq (show md'.n<=(n:Int) by
   have h1:=CL.2.1;have h2:(Ji mdc (Jy out)).n=((Jy out).length:Int):=rfl;have h3:=HN.out
   omega)
  have dG:=Qq DW;have pV:=Qq uT;obtain⟨_,_,hu,⟨A1,c1,kJ,_⟩,⟨A2,c2,mH,_⟩⟩:=DW.here;subst hu kJ mH;obtain⟨d0,mO⟩:∃z,z=md'.n:=⟨_,rfl⟩;obtain⟨d1,qN⟩:∃z,z=md'.val.length:=⟨_,rfl⟩;obtain⟨d2,rD⟩:∃z,z=md'.rel.length:=⟨_,rfl⟩;have SO:=Qq mO;have LD:=Qq qN;have bW:=Qq rD;rw [<-mO,<-qN,<-rD]at dG⊢;rw [<-mO]at YX;have RA:=Qq ((uT.block (Qf xD.out)).trans xD.out);have cC:=Qq (((HX.out.trans uT).block (Qf B4.out)).trans B4.out);obtain⟨⟨q0,q1,q2⟩,⟨f0,f1,f2⟩,ql⟩:=Zc RA.out;obtain⟨w7,dN⟩:∃z,z=((w6.setCell ⟨xb,0,none⟩ (.int .i64 d0)).setCell ⟨xb,1,none⟩ (.slice A1 d1 c1)).setCell ⟨xb,2,none⟩ (.slice A2 d2 c2):=⟨_,rfl⟩
  have rS:=Qq (show Ext w4 w7 by rw [dN];exact Yv (HX.out.trans uT) FO.out _ _ _);have cA:=Qq (show w7.heap[xb]?=some (.cells #[.int .i64 d0,.slice A1 d1 c1,.slice A2 d2 c2] 26 (0,0)) by rw [dN];exact Yx RA.out _ _ _);have AR:=Qq (show w7.heap[b]?=some (.cells #[.int .i64 0,.slice none 0 0,.slice none 0 0] 26 (0,0)) by rw [dN];exact(Kv (by have:=rU.out;omega) _ _ _).trans cC.out);have SL:=Qq (show Frz (fun k=>k < wr.heap.size) w7 (fun W=>MdV W (.agg #[.int .i64 d0,.slice A1 d1 c1,.slice A2 d2 c2]) md') by
   rw [dN];exact dG.out.keep (Nat.le_refl _) (by simp [World.setCell]) (fun k h1 _=>Kv (by have:=Qf xD.out;omega) _ _ _))
  clear jC sD aD UJ P9 CL tO gP DW uT mO qN rD e0 e1 e2 el;go_upto_region 15 with(fail);rw [<-dN];clear dN q0 q1 q2 f0 f1 f2 ql;obtain⟨e0,e1,e2,el⟩:=Zt cA.out;by_cases hdn:d0=(n:Int)
  ·subst hdn;have XT:((n:Int)==(n:Int))=true:=by simp
   obtain⟨⟨q0,q1,q2⟩,⟨f0,f1,f2⟩,ql⟩:=Zc AR.out;have bA:=Qq (show Qqj lg f md' k' 0 from .inr ⟨rfl,xV.out.symm,sW.out,wU.out.symm,by rw [<-tW.out];exact HL.out,by rw [<-tW.out];exact pS.out⟩);have OT:=Qq (show xb < wr.heap.size from Qf xD.out)
   have vB:=Qq (show Frz (fun k=>k < w.heap.size) (((w7.setCell ⟨b,0,none⟩ (.int .i64 (n:Int))).setCell ⟨b,1,none⟩ (.slice A1 d1 c1)).setCell ⟨b,2,none⟩ (.slice A2 d2 c2)) (fun W=>MdV W (.agg #[.int .i64 (n:Int),.slice A1 d1 c1,.slice A2 d2 c2]) md')from
    SL.out.keep (by have:=I5.out;have:=OT.out;omega) (by simp [World.setCell]) (fun k h1 _=>Kv (by have:=rU.out;have:=OT.out;omega) _ _ _))
   go_wp2_with fail
   (try simp only [Exit.inBlock,Exit.then])
   refine bodyPost_ret (Yh Tryz.results37 _ _ rfl (Ze (Yx AR.out _ _ _)) Tryz.underlying26 rfl (by kernel_rfl)) rfl ?_;exact⟨_,md',k',0,rfl,bA.out,Yv (X4.out.trans rS.out) xT.out _ _ _,vB.out⟩
  have XT:(d0==(n:Int))=false:=by rw [beq_eq_false_iff_ne];exact hdn
  have JC:=Qq hdn;have oN:=Qq (Zt cA.out).1;have vU:=Qq (Zt xD.out).1;have GL:=Qq (show 1<=d0 by rw [SO.out];exact(Zn pS.out.good.ck).1);clear hdn;go_wp2_with fail;go_roundw
  case rel=>exact⟨by first|rfl|trivial,k',rfl,Qq ⟨rS.out,md',A1,c1,A2,c2,by rw [<-SO.out,<-LD.out,<-bW.out];exact cA.out,by rw [<-SO.out,<-LD.out,<-bW.out];exact SL.out.here,pS.out⟩⟩
  case measure =>
   rw [oN.out,vU.out];show(d0:Int).toNat < ((n:Nat):Int).toNat;have:=YX.out;have:=JC.out;have:=GL.out;omega
end Go.Proofs.YtkmclcmnoicagaaGreatDoor
