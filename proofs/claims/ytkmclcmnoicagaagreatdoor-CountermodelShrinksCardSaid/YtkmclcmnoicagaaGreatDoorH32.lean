/- The examples of the chapter on countermodels: what the functions come to (plain). -/
import Derived.Test.YtkmclcmnoicagaaGreatDoorH31
namespace Go.Proofs.YtkmclcmnoicagaaGreatDoor
set_option maxRecDepth 100000
set_option maxHeartbeats 128000000
def pF:List Nd:=Qxf 0
def Sh:List Nd:=Bt (Uq 0 pF) (Kk pF)
def tA:List Nd:=Qkv (Uq 0 pF) pF
theorem Qlj {lg:Int} {f:List Nd} {md:Md} {k:Nat}(h1:Jz md f=0)(hk:k < md.n.toNat)(hg:Fw md lg)(hb:(Nc md f).testBit k=true):Uj lg f md k :=
 ⟨h1,hk,hg,fun w hw=>(We h1 w).1 (by rw [hw];exact hb)⟩
theorem Cb {i:Nat}(h:i < 2):i=0\/i=1:=by omega
theorem Zyz:Fw ⟨2,[1],[[3,3]]⟩ 6:=⟨by decide,by decide+kernel,fun r hr=>by
 obtain rfl:r= [3,3]:=by simpa using hr
 intro q hq;have RV:q=2\/q=4\/q=5:=by simpa [Gd]using hq
 rcases RV with rfl|rfl|rfl
 ·have h:Qx8 [3,3]:=fun i hi=>by rcases Cb hi with rfl|rfl <;> decide
  exact h
 ·have h:Gy false [3,3]:=fun w u hw hu _=>by rcases Cb hw with rfl|rfl <;> rcases Cb hu with rfl|rfl <;> decide
  exact h
 have h:Gy true [3,3]:=fun w u hw hu _=>by rcases Cb hw with rfl|rfl <;> rcases Cb hu with rfl|rfl <;> decide
 exact h⟩
theorem Zv7:Fw ⟨1,[1],[[1]]⟩ 6:=⟨by decide,by decide+kernel,fun r hr=>by
 obtain rfl:r= [1]:=by simpa using hr
 intro q hq;have RV:q=2\/q=4\/q=5:=by simpa [Gd]using hq
 have h0:∀i,i < [1].length->i=0:=fun i hi=>by simpa using hi
 rcases RV with rfl|rfl|rfl
 ·have h:Qx8 [1]:=fun i hi=>by rw [h0 i hi];decide
  exact h
 ·have h:Gy false [1]:=fun w u hw hu _=>by rw [h0 w hw,h0 u hu];decide
  exact h
 have h:Gy true [1]:=fun w u hw hu _=>by rw [h0 w hw,h0 u hu];decide
 exact h⟩
theorem ok1:Uj 6 pF ⟨1,[1],[[1]]⟩ 0:=Qlj (by decide+kernel) (by decide) Zv7 (by decide+kernel)
def Zvr(lg:Int)(f:List Nd)(md md':Md)(k':Nat):Prop:=∃out,Ni md (2^0) out/\Rj lg f (Vj md (Za out)) (Xc out 0) md' k'
theorem Zko:Uj 6 pF ⟨2,[1],[[3,3]]⟩ 0:=Qlj (by decide+kernel) (by decide) Zyz (by decide+kernel)
theorem Qpo:Vo ⟨2,[1],[[3,3]]⟩ 1=⟨1,[1],[[1]]⟩:=by
 unfold Vo;rfl
theorem Qik:Bl 1 1 1 0=⟨1,[0],[[0]]⟩:=rfl
theorem okK:Uj 0 Sh ⟨1,[0],[[0]]⟩ 0:=Qlj (by decide+kernel) (by decide) ⟨by decide,by decide+kernel,fun r _ q hq=>by cases hq⟩ (by decide+kernel)
theorem Qmv:Sa Sh=1/\Se Sh=1:=by decide+kernel
theorem Qqb:check tA=0/\(Kk tA).length≠0/\Yj 0 (Kk tA)=0/\Yj 2 (Kk tA)=0/\(Qp (Kk tA)).1.length<=6:=by decide+kernel
theorem Zv6:Ni ⟨2,[1],[[3,3]]⟩ (2^0) 3:=by
 have hb:∀i,(3:Nat).testBit i=true->i=0\/i=1:=fun i hi=>by
  have:=Kf (show 3 < 2^2 by decide) hi;omega
 refine⟨fun i hi=> ?_,fun a ha u hu v hv=> ?_,fun c h1 h2 i hi=> ?_⟩
 ·rw [Nat.testBit_two_pow,decide_eq_true_iff]at hi;rw [<-hi];decide
 ·have ha0:a=0:=by have:a < 1:=ha;omega
  rw [ha0]at hv;rcases hb u hu with rfl|rfl <;> exact hv
 have h0:c 0:=h1 0 (by decide);rcases hb i hi with rfl|rfl
 ·exact h0
 exact h2 0 (by decide) 0 h0 1 (by decide)
theorem Zvt:Vj ⟨2,[1],[[3,3]]⟩ (Za 3)=⟨2,[1],[[3,3]]⟩:=rfl
theorem Zkf:Rj 6 pF ⟨2,[1],[[3,3]]⟩ 0 ⟨1,[1],[[1]]⟩ 0:=by
 refine .step (w:=1) (by decide) (by decide) (Fc.2 ⟨0,rfl,by rw [Qpo];exact ok1⟩) (fun u h1 h2=> ?_) ?_
 ·have:u < 2:=h2;omega
 rw [Qpo];exact .done fun w hw hk=>absurd (show w=0 by have:w < 1:=hw;omega) hk
theorem Qof {md':Md} {k':Nat}(h:Zvr 6 pF ⟨2,[1],[[3,3]]⟩ md' k'):md'=⟨1,[1],[[1]]⟩/\k'=0:=by
 obtain⟨out,hg,hs⟩:=h;obtain rfl:out=3:=hg.uniq Zv6;rw [Zvt]at hs;exact hs.uniq Zkf
theorem Qtc:Qh (Kk tA)=.one ⟨4,0,0,0,0,0⟩ (.two ⟨7,0,0,0,0,0⟩ (.one ⟨9,0,0,0,0,0⟩ (.leaf ⟨3,0,0,0,0,0⟩)) (.leaf ⟨3,0,0,0,0,0⟩)):=rfl
theorem Qc2:Us 2 (Kk tA)=false:=by
 cases h:Us 2 (Kk tA)
 ·rfl
 obtain⟨M,hM,w,hw⟩:=(Qf5 (Qjq Qqb.2.2.2.1)).1 h;rw [Qtc]at hw;simp [KM.sat]at hw;exact absurd (hw.1 w ((hM 0).refl (.inl rfl) w)) hw.2
theorem Zyf:Us 0 (Kk tA)=true:=by
 refine(Qf5 (Qjq Qqb.2.2.1)).2 ⟨⟨Unit,fun _ _ _=>False,fun _ _=>False⟩,fun i=>⟨fun h=>(by rcases h with h|h <;> cases h),fun h=>(by rcases h with h|h|h <;> cases h),fun h=>absurd h.1 (by decide),fun h=>(by rcases h with h|h <;> cases h)⟩,(),?_⟩;rw [Qtc];simp [KM.sat]
theorem Qyi:Yd 1 (Sa Sh) (Se Sh)=2/\Yd 2 (Sa Sh) (Se Sh)=6/\check Sh=0/\Jr (Jp Sh) 15=true:=by decide+kernel
theorem cmK:Xm 0 Sh (Bl 1 (Sa Sh) (Se Sh) 0) 0=0:=by
 rw [Qmv.1,Qmv.2,Qik];exact Fc.2 ⟨0,rfl,okK⟩
theorem Zyx {md:Md} {er:Int}(h:Cs 0 Sh 2 md er):er=0/\md=⟨1,[0],[[0]]⟩:=by
 have h2:(0:Nat) < 2^Yd 1 (Sa Sh) (Se Sh):=Nat.two_pow_pos _;have hl:Yd (2:Int).toNat (Sa Sh) (Se Sh)=6:=Qyi.2.1;rcases h with⟨_,_,h⟩|⟨h,_,_,_,_,_,n,k,hn,_,hk,rfl,_,hN⟩
 ·rcases h with⟨h,_⟩|⟨_,⟨h,_⟩|⟨_,⟨h,_⟩|⟨_,⟨h,_⟩|⟨_,⟨h,_⟩|⟨_,_,h⟩⟩⟩⟩⟩
  ·omega
  ·exact absurd Qyi.2.2.1 h
  ·rw [Qyi.2.2.2]at h;cases h
  ·omega
  ·omega
  exact absurd cmK (h.1 1 0 (by decide) (by decide) h2)
 rcases Nat.lt_or_ge 1 n with h1|h1
 ·exact absurd cmK (hN.1 1 0 (by decide) h1 h2)
 obtain rfl:n=1:=by omega
 rcases Nat.eq_zero_or_pos k with rfl|h3
 ·refine⟨h,?_⟩;rw [Qmv.1,Qmv.2,Qik]
 exact absurd cmK (hN.2 0 h3)
theorem Zy5:Qh Sh=.two ⟨5,0,0,0,0,0⟩ (.one ⟨9,0,0,0,0,0⟩ (.leaf ⟨3,0,0,0,0,0⟩)) (.one ⟨4,0,0,0,0,0⟩ (.leaf ⟨3,0,0,0,0,0⟩)):=rfl
theorem Zyg {md:Md} {er:Int}(h:Cs 2 Sh 2 md er):er=6:=by
 have hl:Yd (2:Int).toNat (Sa Sh) (Se Sh)=6:=Qyi.2.1;rcases h with⟨_,_,h⟩|⟨_,_,_,_,_,_,n,k,_,_,_,_,hc,_⟩
 ·rcases h with⟨h,_⟩|⟨_,⟨h,_⟩|⟨_,⟨h,_⟩|⟨_,⟨h,_⟩|⟨_,⟨h,_⟩|⟨_,h,_⟩⟩⟩⟩⟩
  ·omega
  ·exact absurd Qyi.2.2.1 h
  ·rw [Qyi.2.2.2]at h;cases h
  ·omega
  ·omega
  exact h
 obtain⟨k0,_,zP⟩:=Fc.1 hc;have hs:=zP.sat ⟨k0,zP.lt⟩ rfl;have hr:=(Qs3 zP.good 0).refl (.inl rfl);rw [Zy5]at hs;simp [KM.sat]at hs;exact absurd (hs.1 _ (hr _)) hs.2
theorem Qey {md:Md} {k:Nat} {er:Int}(h:Qze 2 tA md k er):er=14:=by
 rcases h with⟨_,_,_,h⟩|⟨_,_,_,_,h,_⟩
 ·rcases h with⟨h,_⟩|⟨_,h,_⟩|⟨_,_,h,_⟩|⟨_,_,_,h,_⟩|⟨_,_,_,_,_,h⟩|⟨_,_,_,_,h,_⟩
  ·omega
  ·exact absurd Qqb.1 h
  ·exact absurd h Qqb.2.1
  ·exact absurd Qqb.2.2.2.1 h
  ·exact h
  rw [Qc2]at h;cases h
 rw [Qc2]at h;cases h
theorem Qej {md:Md} {k:Nat} {er:Int}(h:Qze 0 tA md k er):er=0/\Xm 0 (Kk tA) md (k:Int)=0:=by
 rcases h with⟨_,_,_,h⟩|⟨h0,_,_,_,_,h⟩
 ·rcases h with⟨h,_⟩|⟨_,h,_⟩|⟨_,_,h,_⟩|⟨_,_,_,h,_⟩|⟨_,_,_,_,h,_⟩|⟨_,_,_,_,_,h,_⟩
  ·omega
  ·exact absurd Qqb.1 h
  ·exact absurd h Qqb.2.1
  ·exact absurd Qqb.2.2.1 h
  ·rw [Zyf]at h;cases h
  have:=Qqb.2.2.2.2;omega
 exact⟨h0,Fc.2 ⟨k,rfl,h⟩⟩
open Go.RowKit
theorem Qtn {w:World} {cs:List Value} {T:TypeId} {B:Nat}(hB:B=w.heap.size) {k:Nat} {z:Value}(h:cs[k]?=some z):(w.alloc (.cells cs.toArray T)).cell? ⟨B,k,none⟩=some z:=by
 subst hB;have:=Im w cs.toArray T k z (by simpa using h)
 rwa [Fo]at this
theorem Uh {w:World} {B:Nat}(hB:B=w.heap.size)(l:List Nat)(h:l.length<=100):Jn (w.alloc (.cells (l.map fun(z:Nat)=>Value.int .u64 (z:Int)).toArray 41)) (.slice (some ⟨B,0,none⟩) l.length l.length) l :=
 ⟨_,_,rfl,Nat.le_refl _,by unfold maxLen;omega,fun _=>⟨_,rfl,by rw [hB];simp,fun k z hk=>by
  rw [Fo];exact Qtn hB (by rw [List.getElem?_map,hk];rfl)⟩⟩
theorem Zqf {w:World} {B:Nat}(hB:B=w.heap.size)(l:List Nd)(h:l.length<=100)(hk:∀n∈l,n.ok):Yq (w.alloc (.cells (l.flatMap Nd.cells).toArray 71)) (.slice (some ⟨B,0,none⟩) l.length l.length) l:=by
 subst hB;have hl:(l.flatMap Nd.cells).length=l.length*6:=by
  clear h hk
  induction l with
  |nil=>rfl
  |cons a r ih=>rw [List.flatMap_cons,List.length_append,ih];show 6+_=_;simp;omega
 exact⟨Hb (base:=0) ⟨hl,.inr ⟨w.heap.size,l.length,(l.flatMap Nd.cells).toArray,rfl,Nat.zero_le _,heap_alloc_new _ _,Nat.le_refl _,by unfold maxLen;omega,by simpa using hl,by rw [List.take_of_length_le (by simp [hl])]⟩⟩,hk⟩
theorem Zqw(w:World)(n:Int)(v r:List Nat)(hv:v.length<=100)(hr:r.length<=100):Jk (((w.alloc (.cells (v.map fun(z:Nat)=>Value.int .u64 (z:Int)).toArray 41)).alloc (.cells (r.map fun(z:Nat)=>Value.int .u64 (z:Int)).toArray 41)).alloc (.cells #[.slice (some ⟨w.heap.size+1,0,none⟩) r.length r.length] 23)) (.agg #[.int .i64 n,.slice (some ⟨w.heap.size,0,none⟩) v.length v.length,.slice (some ⟨w.heap.size+1+1,0,none⟩) 1 1]) ⟨n,v,[r]⟩:=
 ⟨_,_,rfl,(Uh rfl v hv).ext ((Qz.alloc _).alloc _),_,1,rfl,Nat.le_refl _,by decide,fun _=>⟨_,rfl,by simp,fun k s hk=>by
  obtain⟨rfl,rfl⟩:k=0/\s=r:=by
   cases k with
   |zero=>exact⟨rfl,by simpa using hk.symm⟩
   |succ k=>simp at hk
  exact⟨_,Qtn (cs:= [.slice (some ⟨w.heap.size+1,0,none⟩) s.length s.length]) (k:=0) (by simp) rfl,(Uh (w:=w.alloc (.cells (v.map fun(z:Nat)=>Value.int .u64 (z:Int)).toArray 41)) (by simp) s hr).ext (Qz.alloc _)⟩⟩⟩
theorem Zky:pF= [⟨3,0,0,0,0,0⟩]:=by decide+kernel
theorem Sn(w:World):Calls Tryz.prog 73 #[] w fun e w'=>∃u,e=.returned u/\Yq w' u pF/\Qg w w':=by
 go_enter Tryz.func73,Tryz.ntmps73;go_wp2_with fail;go_ret;refine⟨_,rfl,?_,Qz.alloc _⟩;rw [Zky];exact Zqf rfl [⟨3,0,0,0,0,0⟩] (by decide) (fun n hn=>by
  obtain rfl:n=⟨3,0,0,0,0,0⟩:=by simpa using hn
  exact Fl (Zz (by decide) (by decide)) (Zz (by decide) (by decide)) (Zz (by decide) (by decide)) (Zz (by decide) (by decide)) (Zz (by decide) (by decide)) (Zz (by decide) (by decide)))
theorem Qvj(lg:Int)(v:Value)(f:List Nd)(w:World)(hT:Kb w)(h:Yq w v f):
 Calls Tryz.prog 37 #[.int .i64 lg,v] w fun e w'=>∃u md' k' er,e=.returned (.tuple #[u,.int .i64 ((k':Nat):Int),.int .i64 er])/\Qze lg f md' k' er/\Qg w w'/\Vs (fun k=>k < w.heap.size) w' (fun W=>Jk W u md'):=by
 have HT:=Qq hT;have HF:=Qq h;obtain⟨Af,cf,rfl,_⟩:=Qc h;obtain⟨ck,zU⟩:∃z,z=check f:=⟨_,rfl⟩;have yD:=Qq zU;obtain⟨W0,zK⟩:∃W,W=w.alloc (.cells #[.int .i64 0,.slice none 0 0,.slice none 0 0] 26):=⟨_,rfl⟩;have X0:=Qq (show Qg w W0 by rw [zK];exact Qz.alloc _);obtain⟨b,hb⟩:∃b,b=w.heap.size:=⟨_,rfl⟩;have B0:=Qq (show W0.heap[b]?=some (.cells #[.int .i64 0,.slice none 0 0,.slice none 0 0] 26 (0,0)) by rw [zK,hb];exact heap_alloc_new _ _);have yB:=Qq (show w.heap.size<=b by omega);obtain⟨lo,wH⟩:∃z,z=decide (0<=lg/\lg<=6):=⟨_,rfl⟩;have lL:=Qq wH;clear hT h zU;go_enter Tryz.func37,Tryz.ntmps37
 go_upto_region 1 with(fail);rw [<-zK,<-hb];clear zK hb;go_wp2_with fail;refine(Ow lg _).mono ?_;rintro e w1 ⟨rfl,rfl⟩;rw [<-wH];clear wH;obtain⟨⟨r0,r1,r2⟩,⟨g0,g1,g2⟩,rl⟩:=Zc B0.out;cases lo
 ·have HS:=Qq (show Qze lg f ⟨0,[],[]⟩ 0 1 from .inl ⟨by decide,rfl,rfl,.inl ⟨by have:=of_decide_eq_false lL.out.symm;omega,rfl⟩⟩);go_wp2_with fail
  (try simp only [Exit.inBlock,Exit.then])
  refine bodyPost_ret (Jd Tryz.results37 _ _ rfl (Jj (Yn B0.out _ _ _)) Tryz.underlying26 rfl (by kernel_rfl)) rfl ?_;exact⟨_,_,0,1,rfl,HS.out,Yb X0.out yB.out _ _ _,fun W _=>Gs _⟩
 have oB:=Qq (of_decide_eq_true lL.out.symm);clear r0 r1 r2 g0 g1 g2 rl lL;go_wp2_with fail;refine(Vw _ f _ (HF.out.ext X0.out).1).mono ?_;rintro e w2 ⟨rfl,hx⟩;rw [<-yD.out];have X2:=Qq (X0.out.trans hx);have B2:=Qq ((hx.block (Qn B0.out)).trans B0.out);obtain⟨⟨r0,r1,r2⟩,⟨g0,g1,g2⟩,rl⟩:=Zc B2.out;have S2:=Qq hx;clear hx;by_cases hz:ck=0
 case neg =>
  have zQ:(ck !=0)=true:=by simpa using hz
  have HS:=Qq (show Qze lg f ⟨0,[],[]⟩ 0 ck from .inl ⟨hz,rfl,rfl,.inr (.inl ⟨oB.out,by rw [<-yD.out];exact hz,yD.out⟩)⟩);clear hz;go_wp2_with fail
  (try simp only [Exit.inBlock,Exit.then])
  refine bodyPost_ret (Jd Tryz.results37 _ _ rfl (Jj (Yn B2.out _ _ _)) Tryz.underlying26 rfl (by kernel_rfl)) rfl ?_;exact⟨_,_,0,ck,rfl,HS.out,Yb X2.out yB.out _ _ _,fun W _=>Gs _⟩
 subst hz;clear r0 r1 r2 g0 g1 g2 rl;go_wp2_with fail;refine(Eq _ f _ (HF.out.ext X2.out)).mono ?_;rintro e w3 ⟨u,rfl,sJ⟩;have FJ:=Qq sJ.fml;obtain⟨An,cn,rfl,_⟩:=Qc sJ.fml;have X3:=Qq (X2.out.trans sJ.ext);have S3:=Qq (S2.out.trans sJ.ext);have B3:=Qq ((S3.out.block (Qn B0.out)).trans B0.out);obtain⟨nf,BC⟩:∃z,z=Kk f:=⟨_,rfl⟩;have tN:=Qq BC;rw [<-BC]at FJ⊢;clear sJ BC;by_cases qU:nf.length=0
 ·have hq:((nf.length:Int)==0)=true:=by rw [qU];rfl
  have HS:=Qq (show Qze lg f ⟨0,[],[]⟩ 0 8 from .inl ⟨by decide,rfl,rfl,.inr (.inr (.inl ⟨oB.out,yD.out.symm,by rw [<-tN.out];exact qU,rfl⟩))⟩);obtain⟨⟨r0,r1,r2⟩,⟨g0,g1,g2⟩,rl⟩:=Zc B3.out;clear qU;go_wp2_with fail
  (try simp only [Exit.inBlock,Exit.then])
  refine bodyPost_ret (Jd Tryz.results37 _ _ rfl (Jj (Yn B3.out _ _ _)) Tryz.underlying26 rfl (by kernel_rfl)) rfl ?_;exact⟨_,_,0,8,rfl,HS.out,Yb X3.out yB.out _ _ _,fun W _=>Gs _⟩
 have hq:((nf.length:Int)==0)=false:=by rw [beq_eq_false_iff_ne];omega
 have sH:=Qq (show(Kk f).length≠0 by rw [<-tN.out];exact qU);clear qU;go_wp2_with fail;refine(Qhy lg _ nf _ FJ.out).mono ?_;rintro e w4 ⟨hx,oU⟩;have S4:=Qq (S3.out.trans hx);have X4:=Qq (X0.out.trans S4.out);have G8:=Qq (FJ.out.ext hx);have B4:=Qq ((S4.out.block (Qn B0.out)).trans B0.out);obtain⟨er,uK⟩:∃er,er=Yj lg nf:=⟨_,rfl⟩;have wK:=Qq (show er=Yj lg (Kk f) by rw [uK,tN.out]);have qY:=Qq uK;rw [<-uK]at oU;clear hx uK
 have MQ:(∃ev,ev≠0/\e=.returned (.tuple #[.agg #[.int .i64 0,.slice none 0 0,.slice none 0 0],.int .i64 0,.int .i64 ev])/\Qze lg f ⟨0,[],[]⟩ 0 (if ev=6 then 14 else ev))\/
  (er=0/\Us lg nf=true/\∃vm md S,e=.returned (.tuple #[vm,.int .i64 0,.int .i64 0])/\Jk w4 vm md/\md.ok/\Qgk lg nf S md):=by
  rcases oU with⟨h0,he⟩|⟨h0,hl,he⟩|⟨h0,hl,hm⟩|⟨h0,hl,h6,he⟩
  ·exact .inl ⟨er,h0,he,.inl ⟨by split <;> omega,rfl,rfl,.inr (.inr (.inr (.inl ⟨oB.out,yD.out.symm,sH.out,by rw [<-wK.out];exact h0,by rw [<-wK.out]⟩)))⟩⟩
  ·exact .inl ⟨6,by decide,he,.inl ⟨by decide,rfl,rfl,.inr (.inr (.inr (.inr (.inl ⟨oB.out,yD.out.symm,sH.out,by rw [<-wK.out];exact h0,by rw [<-tN.out];exact hl,rfl⟩))))⟩⟩
  ·exact .inr ⟨h0,hl,hm⟩
  exact .inl ⟨8,by decide,he,.inl ⟨by decide,rfl,rfl,.inr (.inr (.inr (.inr (.inr ⟨oB.out,yD.out.symm,sH.out,by rw [<-wK.out];exact h0,by rw [<-tN.out];exact hl,by rw [<-tN.out];exact h6,rfl⟩))))⟩⟩
 clear oU;rcases MQ with⟨ev,MI,rfl,qA⟩|⟨h0,hl,vm,md,S,rfl,sJ,zP,WT⟩
 ·have kT:=Qq qA;have J0:=Qq MI;have X5:=Qq (X4.out.alloc (.cells #[.int .i64 0,.slice none 0 0,.slice none 0 0] 26));have B5:=Qq ((((Qg.refl w4).alloc (.cells #[.int .i64 0,.slice none 0 0,.slice none 0 0] 26)).block (Qn B4.out)).trans B4.out);obtain⟨w5,qS⟩:∃z,z=w4.alloc (.cells #[.int .i64 0,.slice none 0 0,.slice none 0 0] 26):=⟨_,rfl⟩;clear qA MI;go_upto_region 10 with(fail);rw [<-qS]at X5 B5⊢;clear qS;obtain⟨⟨r0,r1,r2⟩,⟨g0,g1,g2⟩,rl⟩:=Zc B5.out;by_cases h6:ev=6
  ·subst h6;go_wp2_with fail;go_loopw [10,11] (fun v10 v11 wr=>v10=.int .i64 0/\v11=.int .i64 14/\wr=w5) (fun _ _ _=>0)
   case atStart=>exact⟨rfl,rfl,rfl⟩
   case round =>
    obtain⟨rfl,rfl,rfl⟩:=hrel;go_wp2_with fail
    (try simp only [Exit.inBlock,Exit.then])
    refine bodyPost_ret (Jd Tryz.results37 _ _ rfl (Jj (Yn B5.out _ _ _)) Tryz.underlying26 rfl (by kernel_rfl)) rfl ?_;exact⟨_,_,0,14,rfl,kT.out,Yb X5.out yB.out _ _ _,fun W _=>Gs _⟩
  have hq6:(ev==6)=false:=by rw [beq_eq_false_iff_ne];exact h6
  have L4:(ev==0)=false:=by rw [beq_eq_false_iff_ne];exact J0.out
  rw [if_neg h6]at kT;clear h6;go_wp2_with fail;go_loopw [10,11] (fun v10 v11 wr=>v10=.int .i64 0/\v11=.int .i64 ev/\wr=w5) (fun _ _ _=>0)
  case atStart=>exact⟨rfl,rfl,rfl⟩
  case round =>
   obtain⟨rfl,rfl,rfl⟩:=hrel;go_wp2_with fail
   (try simp only [Exit.inBlock,Exit.then])
   refine bodyPost_ret (Jd Tryz.results37 _ _ rfl (Jj (Yn B5.out _ _ _)) Tryz.underlying26 rfl (by kernel_rfl)) rfl ?_;exact⟨_,_,0,ev,rfl,kT.out,Yb X5.out yB.out _ _ _,fun W _=>Gs _⟩
 subst h0;have HL:=Qq hl;have vB:=Qq sJ;have uY:=Qq (Zkz qY.out.symm WT);obtain⟨vv,vr,rfl,⟨A,c,rfl,_⟩,⟨A',c',rfl,_⟩⟩:=sJ;obtain⟨m1,uS⟩:∃z,z=md.val.length:=⟨_,rfl⟩;obtain⟨m2,xO⟩:∃z,z=md.rel.length:=⟨_,rfl⟩;obtain⟨m0,oX⟩:∃z,z=md.n:=⟨_,rfl⟩;have jC:=Qq oX;have pE:=Qq uS;have wE:=Qq xO;rw [<-oX,<-uS,<-xO]at vB⊢;obtain⟨w5,qS⟩:∃z,z=w4.alloc (.cells #[.int .i64 m0,.slice A m1 c,.slice A' m2 c'] 26):=⟨_,rfl⟩;obtain⟨xb,rR⟩:∃z,z=w4.heap.size:=⟨_,rfl⟩;have yJ:=Qq (show Qg w4 w5 by rw [qS];exact Qz.alloc _);have wC:=Qq (show w5.heap[xb]?=some (.cells #[.int .i64 m0,.slice A m1 c,.slice A' m2 c'] 26 (0,0)) by rw [qS,rR];exact heap_alloc_new _ _)
 have rX:=Qq (show b < xb by rw [rR];exact Qn B4.out);have oQ:=Qq (show xb < w5.heap.size from Qn wC.out);have EC:=Qq (show w4.heap.size<=xb by rw [rR];exact Nat.le_refl _);have B6:=Qq (show w.heap.size<=xb by have:=yB.out;have:=rX.out;omega);clear hl zP WT oX uS xO;go_upto_region 10 with(fail);rw [<-qS,<-rR];clear qS rR;go_wp2_with fail;go_loopw [10,11] (fun v10 v11 wr=>v11=.int .i64 0/\∃kc:Nat,v10=.int .i64 (kc:Int)/\Hid (Qg w4 wr/\∃mdc A c A' c',wr.heap[xb]?=some (.cells #[.int .i64 mdc.n,.slice A mdc.val.length c,.slice A' mdc.rel.length c'] 26 (0,0))/\Jk wr (.agg #[.int .i64 mdc.n,.slice A mdc.val.length c,.slice A' mdc.rel.length c']) mdc/\Uj lg nf mdc kc)) (fun _ _ wr=>(intOf ((wr.cell? ⟨xb,0,none⟩).getD undef)).toNat)
 case atStart=>exact⟨rfl,0,rfl,Qq ⟨yJ.out,md,A,c,A',c',by rw [<-jC.out,<-pE.out,<-wE.out];exact wC.out,by rw [<-jC.out,<-pE.out,<-wE.out];exact vB.out.ext yJ.out,uY.out⟩⟩
 case round =>
  clear yJ wC vB uY oQ jC pE wE;obtain⟨rfl,kc,rfl,zY⟩:=hrel;obtain⟨hx,mdc,A,c,A',c',vE,sJ,xY⟩:=zY.out;have HX:=Qq hx;have wC:=Qq vE;have vB:=Qq sJ;have uY:=Qq xY;obtain⟨n,hn⟩:=Int.eq_ofNat_of_zero_le (show 0<=mdc.n by have:=(Zv xY.good.ck).1;omega);have HN:=Qq hn;obtain⟨m1,uS⟩:∃z,z=mdc.val.length:=⟨_,rfl⟩;obtain⟨m2,xO⟩:∃z,z=mdc.rel.length:=⟨_,rfl⟩;rw [hn,<-uS,<-xO]at wC vB;clear zY hx vE sJ xY hn uS xO;obtain⟨e0,e1,e2,el⟩:=Zy wC.out;go_wp2_with fail;refine(Hc lg _ _ nf mdc (kc:Int) _ (HT.out.ext (X4.out.trans HX.out)) (G8.out.ext HX.out) vB.out (Ck uY.out.good.ck)).mono ?_
  rintro e w6 ⟨u,md',k',rfl,cD,uP,CL⟩;have uG:Xm lg nf mdc (kc:Int)=0:=Fc.2 ⟨kc,rfl,uY.out⟩;rw [uG];obtain⟨_,k0,out,YV,aZ,K9⟩:=cD.resolve_left (fun h=>h.1 uG);obtain rfl:k0=kc:=by omega
  have AT:=aZ.part uY.out;obtain⟨tB,iN,_,_⟩:=K9.ok AT.1;have pH:=Qq tB;have bN:=Qq (show md'.n<=(n:Int) by
   have h1:=AT.2.1;have h2:(Vj mdc (Za out)).n=((Za out).length:Int):=rfl;have h3:=HN.out
   omega)
  have bQ:=Qq CL;have gR:=Qq uP;obtain⟨_,_,hu,⟨A1,c1,YK,_⟩,⟨A2,c2,bX,_⟩⟩:=CL.here;subst hu YK bX;obtain⟨d0,nP⟩:∃z,z=md'.n:=⟨_,rfl⟩;obtain⟨d1,pZ⟩:∃z,z=md'.val.length:=⟨_,rfl⟩;obtain⟨d2,qP⟩:∃z,z=md'.rel.length:=⟨_,rfl⟩;have QY:=Qq nP;have JR:=Qq pZ;have aO:=Qq qP;rw [<-nP,<-pZ,<-qP]at bQ⊢;rw [<-nP]at bN;have XU:=Qq ((uP.block (Qn wC.out)).trans wC.out);have iF:=Qq (((HX.out.trans uP).block (Qn B4.out)).trans B4.out);obtain⟨⟨q0,q1,q2⟩,⟨f0,f1,f2⟩,ql⟩:=Zc XU.out;obtain⟨w7,bW⟩:∃z,z=((w6.setCell ⟨xb,0,none⟩ (.int .i64 d0)).setCell ⟨xb,1,none⟩ (.slice A1 d1 c1)).setCell ⟨xb,2,none⟩ (.slice A2 d2 c2):=⟨_,rfl⟩
  have sL:=Qq (show Qg w4 w7 by rw [bW];exact Yb (HX.out.trans uP) EC.out _ _ _);have fB:=Qq (show w7.heap[xb]?=some (.cells #[.int .i64 d0,.slice A1 d1 c1,.slice A2 d2 c2] 26 (0,0)) by rw [bW];exact Yn XU.out _ _ _);have JS:=Qq (show w7.heap[b]?=some (.cells #[.int .i64 0,.slice none 0 0,.slice none 0 0] 26 (0,0)) by rw [bW];exact(Kx (by have:=rX.out;omega) _ _ _).trans iF.out);have QW:=Qq (show Vs (fun k=>k < wr.heap.size) w7 (fun W=>Jk W (.agg #[.int .i64 d0,.slice A1 d1 c1,.slice A2 d2 c2]) md') by
   rw [bW];exact bQ.out.keep (Nat.le_refl _) (by simp [World.setCell]) (fun k h1 _=>Kx (by have:=Qn wC.out;omega) _ _ _))
  clear cD uG YV aZ K9 AT tB iN CL uP nP pZ qP e0 e1 e2 el;go_upto_region 15 with(fail);rw [<-bW];clear bW q0 q1 q2 f0 f1 f2 ql;obtain⟨e0,e1,e2,el⟩:=Zy fB.out;by_cases hdn:d0=(n:Int)
  ·subst hdn;have WP:((n:Int)==(n:Int))=true:=by simp
   obtain⟨⟨q0,q1,q2⟩,⟨f0,f1,f2⟩,ql⟩:=Zc JS.out;have ZV:=Qq (show Qze lg f md' k' 0 from .inr ⟨rfl,yD.out.symm,sH.out,wK.out.symm,by rw [<-tN.out];exact HL.out,by rw [<-tN.out];exact pH.out⟩);have NK:=Qq (show xb < wr.heap.size from Qn wC.out)
   have wB:=Qq (show Vs (fun k=>k < w.heap.size) (((w7.setCell ⟨b,0,none⟩ (.int .i64 (n:Int))).setCell ⟨b,1,none⟩ (.slice A1 d1 c1)).setCell ⟨b,2,none⟩ (.slice A2 d2 c2)) (fun W=>Jk W (.agg #[.int .i64 (n:Int),.slice A1 d1 c1,.slice A2 d2 c2]) md')from
    QW.out.keep (by have:=B6.out;have:=NK.out;omega) (by simp [World.setCell]) (fun k h1 _=>Kx (by have:=rX.out;have:=NK.out;omega) _ _ _))
   go_wp2_with fail
   (try simp only [Exit.inBlock,Exit.then])
   refine bodyPost_ret (Jd Tryz.results37 _ _ rfl (Jj (Yn JS.out _ _ _)) Tryz.underlying26 rfl (by kernel_rfl)) rfl ?_;exact⟨_,md',k',0,rfl,ZV.out,Yb (X4.out.trans sL.out) yB.out _ _ _,wB.out⟩
  have WP:(d0==(n:Int))=false:=by rw [beq_eq_false_iff_ne];exact hdn
  have VO:=Qq hdn;have pE:=Qq (Zy fB.out).1;have wE:=Qq (Zy wC.out).1;have FA:=Qq (show 1<=d0 by rw [QY.out];exact(Zv pH.out.good.ck).1);clear hdn;go_wp2_with fail;go_roundw
  case rel=>exact⟨by first|rfl|trivial,k',rfl,Qq ⟨sL.out,md',A1,c1,A2,c2,by rw [<-QY.out,<-JR.out,<-aO.out];exact fB.out,by rw [<-QY.out,<-JR.out,<-aO.out];exact QW.out.here,pH.out⟩⟩
  case measure =>
   rw [pE.out,wE.out];show(d0:Int).toNat < ((n:Nat):Int).toNat;have:=bN.out;have:=VO.out;have:=FA.out;omega
end Go.Proofs.YtkmclcmnoicagaaGreatDoor
