/- The examples of the chapter on countermodels: what the functions come to (plain). -/
import Derived.Test.YtkmclcmnoicagaaGreatDoorL31
namespace Go.Proofs.YtkmclcmnoicagaaGreatDoor
set_option maxRecDepth 100000
set_option maxHeartbeats 128000000
def pF:List Nd:=Qk4 0
def Sw:List Nd:=Bf (Gp 0 pF) (Kj pF)
def tA:List Nd:=Qvi (Gp 0 pF) pF
theorem Qtw {lg:Int} {f:List Nd} {md:Md} {k:Nat}(h1:Jq md f=0)(hk:k < md.n.toNat)(hg:Fl md lg)(hb:(Rz md f).testBit k=true):Ua lg f md k :=
 ⟨h1,hk,hg,fun w hw=>(Wg h1 w).1 (by rw [hw];exact hb)⟩
theorem Cz {i:Nat}(h:i < 2):i=0\/i=1:=by omega
theorem Zjx:Fl ⟨2,[1],[[3,3]]⟩ 6:=⟨by decide,by decide+kernel,fun r hr=>by
 obtain rfl:r= [3,3]:=by simpa using hr
 intro q hq;have TK:q=2\/q=4\/q=5:=by simpa [Gg]using hq
 rcases TK with rfl|rfl|rfl
 ·have h:Qxc [3,3]:=fun i hi=>by rcases Cz hi with rfl|rfl <;> decide
  exact h
 ·have h:Gz false [3,3]:=fun w u hw hu _=>by rcases Cz hw with rfl|rfl <;> rcases Cz hu with rfl|rfl <;> decide
  exact h
 have h:Gz true [3,3]:=fun w u hw hu _=>by rcases Cz hw with rfl|rfl <;> rcases Cz hu with rfl|rfl <;> decide
 exact h⟩
theorem Zvq:Fl ⟨1,[1],[[1]]⟩ 6:=⟨by decide,by decide+kernel,fun r hr=>by
 obtain rfl:r= [1]:=by simpa using hr
 intro q hq;have TK:q=2\/q=4\/q=5:=by simpa [Gg]using hq
 have h0:∀i,i < [1].length->i=0:=fun i hi=>by simpa using hi
 rcases TK with rfl|rfl|rfl
 ·have h:Qxc [1]:=fun i hi=>by rw [h0 i hi];decide
  exact h
 ·have h:Gz false [1]:=fun w u hw hu _=>by rw [h0 w hw,h0 u hu];decide
  exact h
 have h:Gz true [1]:=fun w u hw hu _=>by rw [h0 w hw,h0 u hu];decide
 exact h⟩
theorem ok1:Ua 6 pF ⟨1,[1],[[1]]⟩ 0:=Qtw (by decide+kernel) (by decide) Zvq (by decide+kernel)
def Zyl(lg:Int)(f:List Nd)(md md':Md)(k':Nat):Prop:=∃out,Ck md (2^0) out/\Mj lg f (Vc md (Yq out)) (Gy out 0) md' k'
theorem Zv1:Ua 6 pF ⟨2,[1],[[3,3]]⟩ 0:=Qtw (by decide+kernel) (by decide) Zjx (by decide+kernel)
theorem Qpx:Ni ⟨2,[1],[[3,3]]⟩ 1=⟨1,[1],[[1]]⟩:=by
 unfold Ni;rfl
theorem Qon:Uy 1 1 1 0=⟨1,[0],[[0]]⟩:=rfl
theorem okK:Ua 0 Sw ⟨1,[0],[[0]]⟩ 0:=Qtw (by decide+kernel) (by decide) ⟨by decide,by decide+kernel,fun r _ q hq=>by cases hq⟩ (by decide+kernel)
theorem Qli:Fw Sw=1/\Fo Sw=1:=by decide+kernel
theorem Ii:check tA=0/\(Kj tA).length≠0/\Ji 0 (Kj tA)=0/\Ji 2 (Kj tA)=0/\(Qm (Kj tA)).1.length<=6:=by decide+kernel
theorem Zy9:Ck ⟨2,[1],[[3,3]]⟩ (2^0) 3:=by
 have hb:∀i,(3:Nat).testBit i=true->i=0\/i=1:=fun i hi=>by
  have:=Kw (show 3 < 2^2 by decide) hi;omega
 refine⟨fun i hi=> ?_,fun a ha u hu v hv=> ?_,fun c h1 h2 i hi=> ?_⟩
 ·rw [Nat.testBit_two_pow,decide_eq_true_iff]at hi;rw [<-hi];decide
 ·have B8:a=0:=by have:a < 1:=ha;omega
  rw [B8]at hv;rcases hb u hu with rfl|rfl <;> exact hv
 have h0:c 0:=h1 0 (by decide);rcases hb i hi with rfl|rfl
 ·exact h0
 exact h2 0 (by decide) 0 h0 1 (by decide)
theorem Zyp:Vc ⟨2,[1],[[3,3]]⟩ (Yq 3)=⟨2,[1],[[3,3]]⟩:=rfl
theorem Zvn:Mj 6 pF ⟨2,[1],[[3,3]]⟩ 0 ⟨1,[1],[[1]]⟩ 0:=by
 refine .step (w:=1) (by decide) (by decide) (Nf.2 ⟨0,rfl,by rw [Qpx];exact ok1⟩) (fun u h1 h2=> ?_) ?_
 ·have:u < 2:=h2;omega
 rw [Qpx];exact .done fun w hw hk=>absurd (show w=0 by have:w < 1:=hw;omega) hk
theorem Qwt {md':Md} {k':Nat}(h:Zyl 6 pF ⟨2,[1],[[3,3]]⟩ md' k'):md'=⟨1,[1],[[1]]⟩/\k'=0:=by
 obtain⟨out,hg,hs⟩:=h;obtain rfl:out=3:=hg.uniq Zy9;rw [Zyp]at hs;exact hs.uniq Zvn
theorem Qty:Qh (Kj tA)=.one ⟨4,0,0,0,0,0⟩ (.two ⟨7,0,0,0,0,0⟩ (.one ⟨9,0,0,0,0,0⟩ (.leaf ⟨3,0,0,0,0,0⟩)) (.leaf ⟨3,0,0,0,0,0⟩)):=rfl
theorem Qcg:Ux 2 (Kj tA)=false:=by
 cases h:Ux 2 (Kj tA)
 ·rfl
 obtain⟨M,hM,w,hw⟩:=(Qfl (Qzw Ii.2.2.2.1)).1 h;rw [Qty]at hw;simp [KM.sat]at hw;exact absurd (hw.1 w ((hM 0).refl (.inl rfl) w)) hw.2
theorem Zjs:Ux 0 (Kj tA)=true:=by
 refine(Qfl (Qzw Ii.2.2.1)).2 ⟨⟨Unit,fun _ _ _=>False,fun _ _=>False⟩,fun i=>⟨fun h=>(by rcases h with h|h <;> cases h),fun h=>(by rcases h with h|h|h <;> cases h),fun h=>absurd h.1 (by decide),fun h=>(by rcases h with h|h <;> cases h)⟩,(),?_⟩;rw [Qty];simp [KM.sat]
theorem Qyb:Zh 1 (Fw Sw) (Fo Sw)=2/\Zh 2 (Fw Sw) (Fo Sw)=6/\check Sw=0/\Jr (Js Sw) 15=true:=by decide+kernel
theorem cmK:Uh 0 Sw (Uy 1 (Fw Sw) (Fo Sw) 0) 0=0:=by
 rw [Qli.1,Qli.2,Qon];exact Nf.2 ⟨0,rfl,okK⟩
theorem Zjn {md:Md} {er:Int}(h:Fr 0 Sw 2 md er):er=0/\md=⟨1,[0],[[0]]⟩:=by
 have h2:(0:Nat) < 2^Zh 1 (Fw Sw) (Fo Sw):=Nat.two_pow_pos _;have hl:Zh (2:Int).toNat (Fw Sw) (Fo Sw)=6:=Qyb.2.1;rcases h with⟨_,_,h⟩|⟨h,_,_,_,_,_,n,k,hn,_,hk,rfl,_,hN⟩
 ·rcases h with⟨h,_⟩|⟨_,⟨h,_⟩|⟨_,⟨h,_⟩|⟨_,⟨h,_⟩|⟨_,⟨h,_⟩|⟨_,_,h⟩⟩⟩⟩⟩
  ·omega
  ·exact absurd Qyb.2.2.1 h
  ·rw [Qyb.2.2.2]at h;cases h
  ·omega
  ·omega
  exact absurd cmK (h.1 1 0 (by decide) (by decide) h2)
 rcases Nat.lt_or_ge 1 n with h1|h1
 ·exact absurd cmK (hN.1 1 0 (by decide) h1 h2)
 obtain rfl:n=1:=by omega
 rcases Nat.eq_zero_or_pos k with rfl|h3
 ·refine⟨h,?_⟩;rw [Qli.1,Qli.2,Qon]
 exact absurd cmK (hN.2 0 h3)
theorem Zj8:Qh Sw=.two ⟨5,0,0,0,0,0⟩ (.one ⟨9,0,0,0,0,0⟩ (.leaf ⟨3,0,0,0,0,0⟩)) (.one ⟨4,0,0,0,0,0⟩ (.leaf ⟨3,0,0,0,0,0⟩)):=rfl
theorem Zjr {md:Md} {er:Int}(h:Fr 2 Sw 2 md er):er=6:=by
 have hl:Zh (2:Int).toNat (Fw Sw) (Fo Sw)=6:=Qyb.2.1;rcases h with⟨_,_,h⟩|⟨_,_,_,_,_,_,n,k,_,_,_,_,hc,_⟩
 ·rcases h with⟨h,_⟩|⟨_,⟨h,_⟩|⟨_,⟨h,_⟩|⟨_,⟨h,_⟩|⟨_,⟨h,_⟩|⟨_,h,_⟩⟩⟩⟩⟩
  ·omega
  ·exact absurd Qyb.2.2.1 h
  ·rw [Qyb.2.2.2]at h;cases h
  ·omega
  ·omega
  exact h
 obtain⟨k0,_,zO⟩:=Nf.1 hc;have hs:=zO.sat ⟨k0,zO.lt⟩ rfl;have hr:=(Qsn zO.good 0).refl (.inl rfl);rw [Zj8]at hs;simp [KM.sat]at hs;exact absurd (hs.1 _ (hr _)) hs.2
theorem Qal {md:Md} {k:Nat} {er:Int}(h:Qzb 2 tA md k er):er=14:=by
 rcases h with⟨_,_,_,h⟩|⟨_,_,_,_,h,_⟩
 ·rcases h with⟨h,_⟩|⟨_,h,_⟩|⟨_,_,h,_⟩|⟨_,_,_,h,_⟩|⟨_,_,_,_,_,h⟩|⟨_,_,_,_,h,_⟩
  ·omega
  ·exact absurd Ii.1 h
  ·exact absurd h Ii.2.1
  ·exact absurd Ii.2.2.2.1 h
  ·exact h
  rw [Qcg]at h;cases h
 rw [Qcg]at h;cases h
theorem Qat {md:Md} {k:Nat} {er:Int}(h:Qzb 0 tA md k er):er=0/\Uh 0 (Kj tA) md (k:Int)=0:=by
 rcases h with⟨_,_,_,h⟩|⟨h0,_,_,_,_,h⟩
 ·rcases h with⟨h,_⟩|⟨_,h,_⟩|⟨_,_,h,_⟩|⟨_,_,_,h,_⟩|⟨_,_,_,_,h,_⟩|⟨_,_,_,_,_,h,_⟩
  ·omega
  ·exact absurd Ii.1 h
  ·exact absurd h Ii.2.1
  ·exact absurd Ii.2.2.1 h
  ·rw [Zjs]at h;cases h
  have:=Ii.2.2.2.2;omega
 exact⟨h0,Nf.2 ⟨k,rfl,h⟩⟩
open Go.RowKit
theorem Qs6 {w:World} {cs:List Value} {T:TypeId} {B:Nat}(hB:B=w.heap.size) {k:Nat} {z:Value}(h:cs[k]?=some z):(w.alloc (.cells cs.toArray T)).cell? ⟨B,k,none⟩=some z:=by
 subst hB;have:=Iy w cs.toArray T k z (by simpa using h)
 rwa [Fm]at this
theorem Us {w:World} {B:Nat}(hB:B=w.heap.size)(l:List Nat)(h:l.length<=100):Jb (w.alloc (.cells (l.map fun(z:Nat)=>Value.int .u64 (z:Int)).toArray 41)) (.slice (some ⟨B,0,none⟩) l.length l.length) l :=
 ⟨_,_,rfl,Nat.le_refl _,by unfold maxLen;omega,fun _=>⟨_,rfl,by rw [hB];simp,fun k z hk=>by
  rw [Fm];exact Qs6 hB (by rw [List.getElem?_map,hk];rfl)⟩⟩
theorem Qit {w:World} {B:Nat}(hB:B=w.heap.size)(l:List Nd)(h:l.length<=100)(hk:∀n∈l,n.ok):Jo (w.alloc (.cells (l.flatMap Nd.cells).toArray 71)) (.slice (some ⟨B,0,none⟩) l.length l.length) l:=by
 subst hB;have hl:(l.flatMap Nd.cells).length=l.length*6:=by
  clear h hk
  induction l with
  |nil=>rfl
  |cons a r ih=>rw [List.flatMap_cons,List.length_append,ih];show 6+_=_;simp;omega
 exact⟨Cw (base:=0) ⟨hl,.inr ⟨w.heap.size,l.length,(l.flatMap Nd.cells).toArray,rfl,Nat.zero_le _,heap_alloc_new _ _,Nat.le_refl _,by unfold maxLen;omega,by simpa using hl,by rw [List.take_of_length_le (by simp [hl])]⟩⟩,hk⟩
theorem Qi2(w:World)(n:Int)(v r:List Nat)(hv:v.length<=100)(hr:r.length<=100):Yz (((w.alloc (.cells (v.map fun(z:Nat)=>Value.int .u64 (z:Int)).toArray 41)).alloc (.cells (r.map fun(z:Nat)=>Value.int .u64 (z:Int)).toArray 41)).alloc (.cells #[.slice (some ⟨w.heap.size+1,0,none⟩) r.length r.length] 23)) (.agg #[.int .i64 n,.slice (some ⟨w.heap.size,0,none⟩) v.length v.length,.slice (some ⟨w.heap.size+1+1,0,none⟩) 1 1]) ⟨n,v,[r]⟩:=
 ⟨_,_,rfl,(Us rfl v hv).ext ((Qz.alloc _).alloc _),_,1,rfl,Nat.le_refl _,by decide,fun _=>⟨_,rfl,by simp,fun k s hk=>by
  obtain⟨rfl,rfl⟩:k=0/\s=r:=by
   cases k with
   |zero=>exact⟨rfl,by simpa using hk.symm⟩
   |succ k=>simp at hk
  exact⟨_,Qs6 (cs:= [.slice (some ⟨w.heap.size+1,0,none⟩) s.length s.length]) (k:=0) (by simp) rfl,(Us (w:=w.alloc (.cells (v.map fun(z:Nat)=>Value.int .u64 (z:Int)).toArray 41)) (by simp) s hr).ext (Qz.alloc _)⟩⟩⟩
theorem Zvx:pF= [⟨3,0,0,0,0,0⟩]:=by decide+kernel
theorem Sl(w:World):Calls Tryz.prog 73 #[] w fun e w'=>∃u,e=.returned u/\Jo w' u pF/\Qg w w':=by
 go_enter Tryz.func73,Tryz.ntmps73;go_wp2_with fail;go_ret;refine⟨_,rfl,?_,Qz.alloc _⟩;rw [Zvx];exact Qit rfl [⟨3,0,0,0,0,0⟩] (by decide) (fun n hn=>by
  obtain rfl:n=⟨3,0,0,0,0,0⟩:=by simpa using hn
  exact Ff (Zq (by decide) (by decide)) (Zq (by decide) (by decide)) (Zq (by decide) (by decide)) (Zq (by decide) (by decide)) (Zq (by decide) (by decide)) (Zq (by decide) (by decide)))
theorem Qyi(lg:Int)(v:Value)(f:List Nd)(w:World)(hT:Kk w)(h:Jo w v f):
 Calls Tryz.prog 37 #[.int .i64 lg,v] w fun e w'=>∃u md' k' er,e=.returned (.tuple #[u,.int .i64 ((k':Nat):Int),.int .i64 er])/\Qzb lg f md' k' er/\Qg w w'/\Kr (fun k=>k < w.heap.size) w' (fun W=>Yz W u md'):=by
 have HT:=Qq hT;have HF:=Qq h;obtain⟨Af,cf,rfl,_⟩:=Qc h;obtain⟨ck,zU⟩:∃z,z=check f:=⟨_,rfl⟩;have yF:=Qq zU;obtain⟨W0,zB⟩:∃W,W=w.alloc (.cells #[.int .i64 0,.slice none 0 0,.slice none 0 0] 26):=⟨_,rfl⟩;have X0:=Qq (show Qg w W0 by rw [zB];exact Qz.alloc _);obtain⟨b,hb⟩:∃b,b=w.heap.size:=⟨_,rfl⟩;have B0:=Qq (show W0.heap[b]?=some (.cells #[.int .i64 0,.slice none 0 0,.slice none 0 0] 26 (0,0)) by rw [zB,hb];exact heap_alloc_new _ _);have xY:=Qq (show w.heap.size<=b by omega);obtain⟨lo,wB⟩:∃z,z=decide (0<=lg/\lg<=6):=⟨_,rfl⟩;have pB:=Qq wB;clear hT h zU;go_enter Tryz.func37,Tryz.ntmps37
 go_upto_region 1 with(fail);rw [<-zB,<-hb];clear zB hb;go_wp2_with fail;refine(Ox lg _).mono ?_;rintro e w1 ⟨rfl,rfl⟩;rw [<-wB];clear wB;obtain⟨⟨r0,r1,r2⟩,⟨g0,g1,g2⟩,rl⟩:=Zp B0.out;cases lo
 ·have HS:=Qq (show Qzb lg f ⟨0,[],[]⟩ 0 1 from .inl ⟨by decide,rfl,rfl,.inl ⟨by have:=of_decide_eq_false pB.out.symm;omega,rfl⟩⟩);go_wp2_with fail
  (try simp only [Exit.inBlock,Exit.then])
  refine bodyPost_ret (Yn Tryz.results37 _ _ rfl (Jv (Vq B0.out _ _ _)) Tryz.underlying26 rfl (by kernel_rfl)) rfl ?_;exact⟨_,_,0,1,rfl,HS.out,Yl X0.out xY.out _ _ _,fun W _=>Bt _⟩
 have rW:=Qq (of_decide_eq_true pB.out.symm);clear r0 r1 r2 g0 g1 g2 rl pB;go_wp2_with fail;refine(Vh _ f _ (HF.out.ext X0.out).1).mono ?_;rintro e w2 ⟨rfl,hx⟩;rw [<-yF.out];have X2:=Qq (X0.out.trans hx);have B2:=Qq ((hx.block (Qn B0.out)).trans B0.out);obtain⟨⟨r0,r1,r2⟩,⟨g0,g1,g2⟩,rl⟩:=Zp B2.out;have S2:=Qq hx;clear hx;by_cases hz:ck=0
 case neg =>
  have zQ:(ck !=0)=true:=by simpa using hz
  have HS:=Qq (show Qzb lg f ⟨0,[],[]⟩ 0 ck from .inl ⟨hz,rfl,rfl,.inr (.inl ⟨rW.out,by rw [<-yF.out];exact hz,yF.out⟩)⟩);clear hz;go_wp2_with fail
  (try simp only [Exit.inBlock,Exit.then])
  refine bodyPost_ret (Yn Tryz.results37 _ _ rfl (Jv (Vq B2.out _ _ _)) Tryz.underlying26 rfl (by kernel_rfl)) rfl ?_;exact⟨_,_,0,ck,rfl,HS.out,Yl X2.out xY.out _ _ _,fun W _=>Bt _⟩
 subst hz;clear r0 r1 r2 g0 g1 g2 rl;go_wp2_with fail;refine(Hp _ f _ (HF.out.ext X2.out)).mono ?_;rintro e w3 ⟨u,rfl,rR⟩;have GQ:=Qq rR.fml;obtain⟨An,cn,rfl,_⟩:=Qc rR.fml;have X3:=Qq (X2.out.trans rR.ext);have S3:=Qq (S2.out.trans rR.ext);have B3:=Qq ((S3.out.block (Qn B0.out)).trans B0.out);obtain⟨nf,CO⟩:∃z,z=Kj f:=⟨_,rfl⟩;have tU:=Qq CO;rw [<-CO]at GQ⊢;clear rR CO;by_cases rF:nf.length=0
 ·have hq:((nf.length:Int)==0)=true:=by rw [rF];rfl
  have HS:=Qq (show Qzb lg f ⟨0,[],[]⟩ 0 8 from .inl ⟨by decide,rfl,rfl,.inr (.inr (.inl ⟨rW.out,yF.out.symm,by rw [<-tU.out];exact rF,rfl⟩))⟩);obtain⟨⟨r0,r1,r2⟩,⟨g0,g1,g2⟩,rl⟩:=Zp B3.out;clear rF;go_wp2_with fail
  (try simp only [Exit.inBlock,Exit.then])
  refine bodyPost_ret (Yn Tryz.results37 _ _ rfl (Jv (Vq B3.out _ _ _)) Tryz.underlying26 rfl (by kernel_rfl)) rfl ?_;exact⟨_,_,0,8,rfl,HS.out,Yl X3.out xY.out _ _ _,fun W _=>Bt _⟩
 have hq:((nf.length:Int)==0)=false:=by rw [beq_eq_false_iff_ne];omega
 have uL:=Qq (show(Kj f).length≠0 by rw [<-tU.out];exact rF);clear rF;go_wp2_with fail;refine(Qch lg _ nf _ GQ.out).mono ?_;rintro e w4 ⟨hx,pI⟩;have S4:=Qq (S3.out.trans hx);have X4:=Qq (X0.out.trans S4.out);have J8:=Qq (GQ.out.ext hx);have B4:=Qq ((S4.out.block (Qn B0.out)).trans B0.out);obtain⟨er,tW⟩:∃er,er=Ji lg nf:=⟨_,rfl⟩;have wE:=Qq (show er=Ji lg (Kj f) by rw [tW,tU.out]);have rN:=Qq tW;rw [<-tW]at pI;clear hx tW
 have NZ:(∃ev,ev≠0/\e=.returned (.tuple #[.agg #[.int .i64 0,.slice none 0 0,.slice none 0 0],.int .i64 0,.int .i64 ev])/\Qzb lg f ⟨0,[],[]⟩ 0 (if ev=6 then 14 else ev))\/
  (er=0/\Ux lg nf=true/\∃vm md S,e=.returned (.tuple #[vm,.int .i64 0,.int .i64 0])/\Yz w4 vm md/\md.ok/\Qx0 lg nf S md):=by
  rcases pI with⟨h0,he⟩|⟨h0,hl,he⟩|⟨h0,hl,hm⟩|⟨h0,hl,h6,he⟩
  ·exact .inl ⟨er,h0,he,.inl ⟨by split <;> omega,rfl,rfl,.inr (.inr (.inr (.inl ⟨rW.out,yF.out.symm,uL.out,by rw [<-wE.out];exact h0,by rw [<-wE.out]⟩)))⟩⟩
  ·exact .inl ⟨6,by decide,he,.inl ⟨by decide,rfl,rfl,.inr (.inr (.inr (.inr (.inl ⟨rW.out,yF.out.symm,uL.out,by rw [<-wE.out];exact h0,by rw [<-tU.out];exact hl,rfl⟩))))⟩⟩
  ·exact .inr ⟨h0,hl,hm⟩
  exact .inl ⟨8,by decide,he,.inl ⟨by decide,rfl,rfl,.inr (.inr (.inr (.inr (.inr ⟨rW.out,yF.out.symm,uL.out,by rw [<-wE.out];exact h0,by rw [<-tU.out];exact hl,by rw [<-tU.out];exact h6,rfl⟩))))⟩⟩
 clear pI;rcases NZ with⟨ev,NQ,rfl,oU⟩|⟨h0,hl,vm,md,S,rfl,rR,zO,jF⟩
 ·have lR:=Qq oU;have L6:=Qq NQ;have X5:=Qq (X4.out.alloc (.cells #[.int .i64 0,.slice none 0 0,.slice none 0 0] 26));have B5:=Qq ((((Qg.refl w4).alloc (.cells #[.int .i64 0,.slice none 0 0,.slice none 0 0] 26)).block (Qn B4.out)).trans B4.out);obtain⟨w5,sT⟩:∃z,z=w4.alloc (.cells #[.int .i64 0,.slice none 0 0,.slice none 0 0] 26):=⟨_,rfl⟩;clear oU NQ;go_upto_region 10 with(fail);rw [<-sT]at X5 B5⊢;clear sT;obtain⟨⟨r0,r1,r2⟩,⟨g0,g1,g2⟩,rl⟩:=Zp B5.out;by_cases h6:ev=6
  ·subst h6;go_wp2_with fail;go_loopw [10,11] (fun v10 v11 wr=>v10=.int .i64 0/\v11=.int .i64 14/\wr=w5) (fun _ _ _=>0)
   case atStart=>exact⟨rfl,rfl,rfl⟩
   case round =>
    obtain⟨rfl,rfl,rfl⟩:=hrel;go_wp2_with fail
    (try simp only [Exit.inBlock,Exit.then])
    refine bodyPost_ret (Yn Tryz.results37 _ _ rfl (Jv (Vq B5.out _ _ _)) Tryz.underlying26 rfl (by kernel_rfl)) rfl ?_;exact⟨_,_,0,14,rfl,lR.out,Yl X5.out xY.out _ _ _,fun W _=>Bt _⟩
  have hq6:(ev==6)=false:=by rw [beq_eq_false_iff_ne];exact h6
  have hq0:(ev==0)=false:=by rw [beq_eq_false_iff_ne];exact L6.out
  rw [if_neg h6]at lR;clear h6;go_wp2_with fail;go_loopw [10,11] (fun v10 v11 wr=>v10=.int .i64 0/\v11=.int .i64 ev/\wr=w5) (fun _ _ _=>0)
  case atStart=>exact⟨rfl,rfl,rfl⟩
  case round =>
   obtain⟨rfl,rfl,rfl⟩:=hrel;go_wp2_with fail
   (try simp only [Exit.inBlock,Exit.then])
   refine bodyPost_ret (Yn Tryz.results37 _ _ rfl (Jv (Vq B5.out _ _ _)) Tryz.underlying26 rfl (by kernel_rfl)) rfl ?_;exact⟨_,_,0,ev,rfl,lR.out,Yl X5.out xY.out _ _ _,fun W _=>Bt _⟩
 subst h0;have HL:=Qq hl;have uW:=Qq rR;have sW:=Qq (Zvv rN.out.symm jF);obtain⟨vv,vr,rfl,⟨A,c,rfl,_⟩,⟨A',c',rfl,_⟩⟩:=rR;obtain⟨m1,uR⟩:∃z,z=md.val.length:=⟨_,rfl⟩;obtain⟨m2,xO⟩:∃z,z=md.rel.length:=⟨_,rfl⟩;obtain⟨m0,pL⟩:∃z,z=md.n:=⟨_,rfl⟩;have jY:=Qq pL;have oQ:=Qq uR;have vV:=Qq xO;rw [<-pL,<-uR,<-xO]at uW⊢;obtain⟨w5,sT⟩:∃z,z=w4.alloc (.cells #[.int .i64 m0,.slice A m1 c,.slice A' m2 c'] 26):=⟨_,rfl⟩;obtain⟨xb,sX⟩:∃z,z=w4.heap.size:=⟨_,rfl⟩;have yJ:=Qq (show Qg w4 w5 by rw [sT];exact Qz.alloc _);have vW:=Qq (show w5.heap[xb]?=some (.cells #[.int .i64 m0,.slice A m1 c,.slice A' m2 c'] 26 (0,0)) by rw [sT,sX];exact heap_alloc_new _ _)
 have rX:=Qq (show b < xb by rw [sX];exact Qn B4.out);have oZ:=Qq (show xb < w5.heap.size from Qn vW.out);have FK:=Qq (show w4.heap.size<=xb by rw [sX];exact Nat.le_refl _);have H7:=Qq (show w.heap.size<=xb by have:=xY.out;have:=rX.out;omega);clear hl zO jF pL uR xO;go_upto_region 10 with(fail);rw [<-sT,<-sX];clear sT sX;go_wp2_with fail;go_loopw [10,11] (fun v10 v11 wr=>v11=.int .i64 0/\∃kc:Nat,v10=.int .i64 (kc:Int)/\Hid (Qg w4 wr/\∃mdc A c A' c',wr.heap[xb]?=some (.cells #[.int .i64 mdc.n,.slice A mdc.val.length c,.slice A' mdc.rel.length c'] 26 (0,0))/\Yz wr (.agg #[.int .i64 mdc.n,.slice A mdc.val.length c,.slice A' mdc.rel.length c']) mdc/\Ua lg nf mdc kc)) (fun _ _ wr=>(intOf ((wr.cell? ⟨xb,0,none⟩).getD undef)).toNat)
 case atStart=>exact⟨rfl,0,rfl,Qq ⟨yJ.out,md,A,c,A',c',by rw [<-jY.out,<-oQ.out,<-vV.out];exact vW.out,by rw [<-jY.out,<-oQ.out,<-vV.out];exact uW.out.ext yJ.out,sW.out⟩⟩
 case round =>
  clear yJ vW uW sW oZ jY oQ vV;obtain⟨rfl,kc,rfl,zY⟩:=hrel;obtain⟨hx,mdc,A,c,A',c',vL,rR,xK⟩:=zY.out;have HX:=Qq hx;have vW:=Qq vL;have uW:=Qq rR;have sW:=Qq xK;obtain⟨n,hn⟩:=Int.eq_ofNat_of_zero_le (show 0<=mdc.n by have:=(Zb xK.good.ck).1;omega);have HN:=Qq hn;obtain⟨m1,uR⟩:∃z,z=mdc.val.length:=⟨_,rfl⟩;obtain⟨m2,xO⟩:∃z,z=mdc.rel.length:=⟨_,rfl⟩;rw [hn,<-uR,<-xO]at vW uW;clear zY hx vL rR xK hn uR xO;obtain⟨e0,e1,e2,el⟩:=Zs vW.out;go_wp2_with fail;refine(Qq6 lg _ _ nf mdc (kc:Int) _ (HT.out.ext (X4.out.trans HX.out)) (J8.out.ext HX.out) uW.out (Ow sW.out.good.ck)).mono ?_
  rintro e w6 ⟨u,md',k',rfl,dH,uX,DS⟩;have tK:Uh lg nf mdc (kc:Int)=0:=Nf.2 ⟨kc,rfl,sW.out⟩;rw [tK];obtain⟨_,k0,out,aB,UL,N8⟩:=dH.resolve_left (fun h=>h.1 tK);obtain rfl:k0=kc:=by omega
  have CF:=UL.part sW.out;obtain⟨tL,gK,_,_⟩:=N8.ok CF.1;have pZ:=Qq tL;have fN:=Qq (show md'.n<=(n:Int) by
   have h1:=CF.2.1;have h2:(Vc mdc (Yq out)).n=((Yq out).length:Int):=rfl;have h3:=HN.out
   omega)
  have cU:=Qq DS;have iL:=Qq uX;obtain⟨_,_,hu,⟨A1,c1,ZS,_⟩,⟨A2,c2,dC,_⟩⟩:=DS.here;subst hu ZS dC;obtain⟨d0,mQ⟩:∃z,z=md'.n:=⟨_,rfl⟩;obtain⟨d1,rJ⟩:∃z,z=md'.val.length:=⟨_,rfl⟩;obtain⟨d2,rS⟩:∃z,z=md'.rel.length:=⟨_,rfl⟩;have SP:=Qq mQ;have LE:=Qq rJ;have bM:=Qq rS;rw [<-mQ,<-rJ,<-rS]at cU⊢;rw [<-mQ]at fN;have RE:=Qq ((uX.block (Qn vW.out)).trans vW.out);have fY:=Qq (((HX.out.trans uX).block (Qn B4.out)).trans B4.out);obtain⟨⟨q0,q1,q2⟩,⟨f0,f1,f2⟩,ql⟩:=Zp RE.out;obtain⟨w7,dA⟩:∃z,z=((w6.setCell ⟨xb,0,none⟩ (.int .i64 d0)).setCell ⟨xb,1,none⟩ (.slice A1 d1 c1)).setCell ⟨xb,2,none⟩ (.slice A2 d2 c2):=⟨_,rfl⟩
  have qY:=Qq (show Qg w4 w7 by rw [dA];exact Yl (HX.out.trans uX) FK.out _ _ _);have fX:=Qq (show w7.heap[xb]?=some (.cells #[.int .i64 d0,.slice A1 d1 c1,.slice A2 d2 c2] 26 (0,0)) by rw [dA];exact Vq RE.out _ _ _);have AJ:=Qq (show w7.heap[b]?=some (.cells #[.int .i64 0,.slice none 0 0,.slice none 0 0] 26 (0,0)) by rw [dA];exact(Xn (by have:=rX.out;omega) _ _ _).trans fY.out);have SN:=Qq (show Kr (fun k=>k < wr.heap.size) w7 (fun W=>Yz W (.agg #[.int .i64 d0,.slice A1 d1 c1,.slice A2 d2 c2]) md') by
   rw [dA];exact cU.out.keep (Nat.le_refl _) (by simp [World.setCell]) (fun k h1 _=>Xn (by have:=Qn vW.out;omega) _ _ _))
  clear dH tK aB UL N8 CF tL gK DS uX mQ rJ rS e0 e1 e2 el;go_upto_region 15 with(fail);rw [<-dA];clear dA q0 q1 q2 f0 f1 f2 ql;obtain⟨e0,e1,e2,el⟩:=Zs fX.out;by_cases hdn:d0=(n:Int)
  ·subst hdn;have lY:((n:Int)==(n:Int))=true:=by simp
   obtain⟨⟨q0,q1,q2⟩,⟨f0,f1,f2⟩,ql⟩:=Zp AJ.out;have aX:=Qq (show Qzb lg f md' k' 0 from .inr ⟨rfl,yF.out.symm,uL.out,wE.out.symm,by rw [<-tU.out];exact HL.out,by rw [<-tU.out];exact pZ.out⟩);have OR:=Qq (show xb < wr.heap.size from Qn vW.out)
   have vT:=Qq (show Kr (fun k=>k < w.heap.size) (((w7.setCell ⟨b,0,none⟩ (.int .i64 (n:Int))).setCell ⟨b,1,none⟩ (.slice A1 d1 c1)).setCell ⟨b,2,none⟩ (.slice A2 d2 c2)) (fun W=>Yz W (.agg #[.int .i64 (n:Int),.slice A1 d1 c1,.slice A2 d2 c2]) md')from
    SN.out.keep (by have:=H7.out;have:=OR.out;omega) (by simp [World.setCell]) (fun k h1 _=>Xn (by have:=rX.out;have:=OR.out;omega) _ _ _))
   go_wp2_with fail
   (try simp only [Exit.inBlock,Exit.then])
   refine bodyPost_ret (Yn Tryz.results37 _ _ rfl (Jv (Vq AJ.out _ _ _)) Tryz.underlying26 rfl (by kernel_rfl)) rfl ?_;exact⟨_,md',k',0,rfl,aX.out,Yl (X4.out.trans qY.out) xY.out _ _ _,vT.out⟩
  have lY:(d0==(n:Int))=false:=by rw [beq_eq_false_iff_ne];exact hdn
  have JA:=Qq hdn;have oQ:=Qq (Zs fX.out).1;have vV:=Qq (Zs vW.out).1;have GI:=Qq (show 1<=d0 by rw [SP.out];exact(Zb pZ.out.good.ck).1);clear hdn;go_wp2_with fail;go_roundw
  case rel=>exact⟨by first|rfl|trivial,k',rfl,Qq ⟨qY.out,md',A1,c1,A2,c2,by rw [<-SP.out,<-LE.out,<-bM.out];exact fX.out,by rw [<-SP.out,<-LE.out,<-bM.out];exact SN.out.here,pZ.out⟩⟩
  case measure =>
   rw [oQ.out,vV.out];show(d0:Int).toNat < ((n:Nat):Int).toNat;have:=fN.out;have:=JA.out;have:=GI.out;omega
end Go.Proofs.YtkmclcmnoicagaaGreatDoor
