/- types' next: the walk. -/
import Derived.Test.YtkmclcmnoicagaaGreatDoorM01
import Derived.Test.YtkmclcmnoicagaaGreatDoorM22
import Derived.Lib.Strings
import Derived.Lib.Slices
import Derived.Lib.Small
import Derived.Lib.Walk
import Derived.Lib.BitFns
import Derived.Test.YtkmclcmnoicagaaGreatDoorM21
import Derived.Test.YtkmclcmnoicagaaGreatDoorM20
import Derived.Test.YtkmclcmnoicagaaGreatDoorM17
import Derived.Test.YtkmclcmnoicagaaGreatDoorM10
namespace Go.Proofs.YtkmclcmnoicagaaGreatDoor
set_option maxRecDepth 100000
set_option maxHeartbeats 128000000
open Go.RowKit
theorem Qkz {p:Nat->Bool} {m k:Nat}(hk:k < m)(h:p k=true)(hn:∀j,j < k->p j=false):(List.range m).find? p=some k:=by
 rw [List.find?_range_eq_some];exact⟨h,List.mem_range.2 hk,fun j hj=>by rw [hn j hj];rfl⟩
theorem Qc3 {lg:Int} {ks:List Kn} {al:List Bool} {a:Int} {t k:Nat} {wt:Nat->Bool}(hk:k < al.length)(h:Xj lg ks al a t wt k=true)(hn:∀j,j < k->Xj lg ks al a t wt j=false):Xz lg ks al a t wt=(k:Int):=by
 unfold Xz;rw [Qkz hk h hn]
theorem Qmb {lg:Int} {ks:List Kn} {al:List Bool} {a:Int} {t:Nat} {wt:Nat->Bool}(hn:∀j,j < al.length->Xj lg ks al a t wt j=false):Xz lg ks al a t wt= -1:=by
 unfold Xz;have:(List.range al.length).find? (Xj lg ks al a t wt)=none:=by
  rw [List.find?_eq_none];intro j hj;rw [hn j (List.mem_range.1 hj)];simp
 rw [this]
theorem Qj3(b:Nat)(lg:Int)(base:List (List Nd))(root:List Bool)(ks:List Kn)(cs:List Cm)(alive:List Bool)(a:Int)(t:Nat)(wanted:Nat->Bool)(g:Nat)(lb:Array Value)(eg:∀args w,(callFunc g args).run Tryz.prog w=.ok (.enter g args) w)(w:World)
 (hE:Eng w b lg base root ks cs alive)(hlg:0<=lg/\lg<=6)(ht:t < 18446744073709551616)(_hm:alive.length<=4096)(hks:∀k∈ks,k.place < 64/\alive.length<=k.holds.length)
 (hw:∀(W:World) (u:Nat),u < alive.length->Ext w W->Calls Tryz.prog g (#[.int .i64 (u:Int)]++lb) W fun e w'=>e=.returned (.bool (wanted u))/\Ext W w'):
 Calls Tryz.prog 136 #[.pointer (some ⟨b,0,none⟩),.int .i64 a,.int .u64 (t:Int),.func (.func g) #[] lb] w fun e w'=>e=.returned (.int .i64 (Xz lg ks alive a t wanted))/\Ext w w':=by
 obtain⟨Ab,cb,Ar,cr,Ak,ck,Ac,cc,Aa,ca,d0,d1,d2,d3,d4,d5,hbl,_,_,hkn,_,hal⟩:=hE.cells;have HE:=Qq hE;have HA:=Qq hal;have hac:=hal.1;have hca:=hal.2.1;unfold maxLen at hca;have HKS:=Qq hks;have HW:=Qq hw;clear hE hal hkn hks hw d0 d1 d2 d3 d4;go_enter Tryz.func136,Tryz.ntmps136;go_wp2_with fail;clear d5;go_loopw [16] (fun v wr=>∃k:Nat,v=.int .i64 (k:Int)/\k<=alive.length/\Hid (Ext w wr/\∀j,j < k->Xj lg ks alive a t wanted j=false)) (fun v _=>alive.length - (intOf v).toNat)
 case atStart=>exact⟨0,rfl,Nat.zero_le _,Qq ⟨Qz,fun j hj=>absurd hj (by omega)⟩⟩
 case round =>
  obtain⟨k,rfl,hk,HREL⟩:=hrel;have HX:=Qq HREL.out.1;have HJ:=Qq HREL.out.2;clear HREL;by_cases hlt2:k < alive.length
  ·have hk1:(k:Int) < (alive.length:Int):=by omega
   obtain⟨ad,rfl,hb1,a0⟩:=Kz (HA.out.ext HX.out) hlt2;have HNEXT:=Qq (show Xj lg ks alive a t wanted k=false->∀j,j < k+1->Xj lg ks alive a t wanted j=false from fun h j hj=>by
    by_cases e:j < k
    ·exact HJ.out j e
    have:j=k:=by omega
    subst this;exact h)
   have HP:=Qq (show Xj lg ks alive a t wanted k=(alive.getD k false&&(wanted k&&Ze lg ks a t k))from rfl);have HWK:=Qq (fun W hW=>HW.out W k hlt2 hW);have HPO:=Qq (fun W (hW:Ext w W)=>Sl b lg base root ks cs alive a t k W (HE.out.ext hW) hlg ht (by omega) (fun n hn=>⟨(HKS.out n hn).1,Qy hlt2 (HKS.out n hn).2⟩));obtain⟨wk,hwk⟩:∃x,x=wanted k:=⟨_,rfl⟩;obtain⟨pk,hpk⟩:∃x,x=Ze lg ks a t k:=⟨_,rfl⟩;obtain⟨ak,hak⟩:∃x,x=alive.getD k false:=⟨_,rfl⟩;rw [<-hwk,<-hpk,<-hak]at HP;rw [<-hwk]at HWK;rw [<-hpk]at HPO;rw [<-hak]at a0;clear hwk hpk hak;cases ak
   ·go_wp2_with fail;go_roundw
    case rel=>exact⟨k+1,by go_num,by omega,Qq ⟨HX.out,HNEXT.out (by rw [HP.out];rfl)⟩⟩
    case measure=>simp [intOf];omega
   cases wk
   ·go_wp2_with fail;refine(HWK.out _ HX.out).mono ?_;rintro e w2 ⟨rfl,hx⟩;have HX2:=Qq hx;clear hx;go_wp2_with fail;go_roundw
    case rel=>exact⟨k+1,by go_num,by omega,Qq ⟨HX.out.trans HX2.out,HNEXT.out (by rw [HP.out];rfl)⟩⟩
    case measure=>simp [intOf];omega
   go_wp2_with fail;refine(HWK.out _ HX.out).mono ?_;rintro e w2 ⟨rfl,hx⟩;have HX2:=Qq hx;clear hx;go_wp2_with fail;refine(HPO.out _ (HX.out.trans HX2.out)).mono ?_;rintro e w3 ⟨rfl,hx⟩;have HX3:=Qq hx;clear hx;cases pk
   ·go_wp2_with fail;go_roundw
    case rel=>exact⟨k+1,by go_num,by omega,Qq ⟨HX.out.trans (HX2.out.trans HX3.out),HNEXT.out (by rw [HP.out];rfl)⟩⟩
    case measure=>simp [intOf];omega
   have HR:=Qq (Qc3 hlt2 (by rw [HP.out];rfl) HJ.out);go_wp2_with fail;go_ret;exact⟨by rw [HR.out] <;> rfl,HX.out.trans (HX2.out.trans HX3.out)⟩
  obtain rfl:alive.length=k:=by omega
  have HR:=Qq (Qmb HJ.out);go_wp2_with fail;go_ret;exact⟨by rw [HR.out] <;> rfl,HX.out⟩
def Yk(m:Nat):Nat:=if m=0 then 0 else m.log2+1
theorem Qee:∀x:Fin 256,Lib.len8 (x.val:Int)=(Yk x.val:Int):=by decide+kernel
theorem Qea(y:Int)(h:y.toNat < Lib.len8tab.size):((Lib.len8tab[y.toNat]'h).toNat:Int)=Lib.len8 y:=by
 unfold Lib.len8;rw [getElem?_pos Lib.len8tab y.toNat h];rfl
theorem Qpr(a:Int)(h0:0<=a)(h1:a<=8):RowKit.wrap64 (RowKit.wrap64 a)=a:=by
 unfold RowKit.wrap64;omega
theorem Ql6(x z:Int)(h0:0<=x)(h1:x < 256)(hz:Hid (Lib.len8 x=z/\0<=z/\z<=8))(w:World):Calls Tryz.prog 141 #[.int .u64 x] w fun e w'=>e=.returned (.int .i64 z)/\w'=w:=by
 go_enter Tryz.func141,Tryz.ntmps141;go_wp2;go_ret;exact⟨by rw [Qea,hz.out.1,Qpr _ hz.out.2.1 hz.out.2.2] <;> rfl,rfl⟩
theorem Qie {x:Nat}(hx:x < 256):Yk x<=8:=by
 unfold Yk
 split
 ·omega
 rename_i h0;have:=(Nat.log2_lt h0).2 (show x < 2^8 from hx);omega
theorem Ql5(x:Nat)(hx:x < 256)(w:World):Calls Tryz.prog 141 #[.int .u64 (x:Int)] w fun e w'=>e=.returned (.int .i64 (Yk x:Int))/\w'=w :=
 Ql6 (x:Int) _ (by omega) (by omega) (Qq ⟨Qee ⟨x,hx⟩,by omega,by have:=Qie hx;show(Yk x:Int)<=8;omega⟩) w
theorem Qq8(x:Nat)(hx:x < 256)(w:World):Calls Tryz.prog 65 #[.int .u64 (x:Int)] w fun e w'=>e=.returned (.int .i64 (Yk x:Int))/\w'=w:=by
 go_enter Tryz.func65,Tryz.ntmps65;go_wp2_with fail;refine(Ql5 x hx _).mono ?_;rintro e w1 ⟨rfl,rfl⟩;go_wp2_with fail;go_ret;exact⟨rfl,rfl⟩
structure InB (A F:Nat) (n:Nd):Prop where
 agent:n.op=9\/n.op=10->0<=n.i/\n.i < A
 group:∀i:Nat,Yi n.g i=true->i < A
 fact:n.op=3->0<=n.i/\n.i < F
section
variable {A F:Nat}
theorem InB.with {n:Nd}(h:InB A F n)(k1 k2:Nat):InB A F (n.with_ k1 k2):=⟨h.agent,h.group,h.fact⟩
theorem Rn {op:Int}(h:op=1\/op=4\/op=5\/op=7):InB A F ⟨op,0,0,0,0,0⟩:=
 ⟨fun e=>by have:op=9\/op=10:=e;omega,fun i hi=>by unfold Yi at hi;simp at hi,fun e=>by have:op=3:=e;omega⟩
theorem Qjw {i:Int}(h:0<=i/\i < A):InB A F ⟨9,i,0,0,0,0⟩:=
 ⟨fun _=>h,fun i hi=>by unfold Yi at hi;simp at hi,fun e=>by have:(9:Int)=3:=e;omega⟩
theorem Qd9:∀(r:List Tr) (t:Tr),t.all (InB A F)->(∀u∈r,u.all (InB A F))->(My t r).all (InB A F)
 |[],_,ht,_=>ht
 |u :: r,t,ht,hr=>Qd9 r _ ⟨Rn (by omega),ht,hr u (List.mem_cons_self ..)⟩ (fun v hv=>hr v (List.mem_cons_of_mem _ hv))
theorem Qiq:∀(l:List Tr),(∀u∈l,u.all (InB A F))->(Le l).all (InB A F)
 |[],_=>Rn (by omega)
 |t :: r,h=>Qd9 r t (h t (List.mem_cons_self ..)) (fun v hv=>h v (List.mem_cons_of_mem _ hv))
theorem Iz:∀(t:Tr),t.all (InB A F)->(Vn t).all (InB A F)
 |.leaf _,h=>h
 |.one n a,h=>by
  have ih:=Iz a h.2;unfold Vn;by_cases h10:n.op=10
  ·rw [if_pos h10];exact⟨Rn (by omega),Qjw (h.1.agent (.inr h10)),Rn (by omega),ih⟩
  rw [if_neg h10];by_cases h11:n.op=11
  ·rw [if_pos h11];refine Qiq _ fun u hu=> ?_
   obtain⟨i,hi,rfl⟩:=List.mem_map.1 hu;obtain⟨_,h2⟩:=List.mem_filter.1 hi;have:=h.1.group i h2;exact⟨Qjw ⟨by omega,by omega⟩,ih⟩
  rw [if_neg h11];exact⟨h.1,ih⟩
 |.two n a b,h=>⟨h.1,Iz a h.2.1,Iz b h.2.2⟩
theorem Qw8 {i:Nat} {n:Nd} {a b:Tr}(h:(Tr.two n a b).all (InB A F))(hg:Yi n.g i=true):(Xh i n a b).all (InB A F):=by
 have:=h.1.group i hg;exact⟨Qjw ⟨by omega,by omega⟩,Rn (by omega),h.2.1,Rn (by omega),h.2.2,h⟩
theorem Qay {t:Tr}(ht:t.ok)(h:t.all (InB A F)) {k:Nat}(hk:k < (Qn t).length):(tr (Qn t) k).all (InB A F):=
 Pw (P:=InB A F) (fun _ k1 k2 h=>h.with k1 k2) (Es ht) (Rs (P:=InB A F) (fun _ k1 k2 h=>h.with k1 k2) t [] h (fun n hn=>by cases hn)) k hk
theorem Qao {t:Tr}(h:Xf t)(he:(Vp (Qn t)).2=0)(hin:t.all (InB A F)):∀s∈(Vp (Qn t)).1.map Qp,s.all (InB A F):=by
 have hB:=Qnq h he;intro s hs;obtain⟨hX,hc⟩:=(Yw hB.can).1 hs;unfold Vp at he hc;cases hb:((Yg (Qn t)).flatMap Vv).any (fun u=>decide (u.length=0))||decide (12 < (((Yg (Qn t)).flatMap Vv).foldl Xt (Yg (Qn t))).length)
 case true=>rw [hb]at he;cases he
 rw [hb,cond_false]at hc;rcases(Ew _ _ _).1 hc with h1|h1
 ·obtain⟨k,hk,e,_⟩:=h.mem_base0.1 h1;rw [(hX.inj (h.at hk) e)];exact Qay h.xp.1.1 hin hk
 obtain⟨c,hcb,huc⟩:=List.mem_flatMap.1 h1;obtain⟨k,hk,rfl,_⟩:=h.mem_base0.1 hcb;have hx:=h.at hk;have hin2:=Qay h.xp.1.1 hin hk;by_cases ho:(tr (Qn t) k).top.op=13
 ·obtain⟨n,a,b,e,ho'⟩:=Ek hx ho;rw [e]at hx huc hin2;obtain⟨i,hi,hg,e2⟩:=(Oj hx ho').1 huc;have hlen:(Qn (Xh i n a b)).length<=200:=by
   by_cases e3:(Qn (Xh i n a b)).length<=200
   ·exact e3
   rw [Kp (by omega)]at e2;have hp:=Gr hX.xp.1.1;rw [e2]at hp;simp at hp
  have hX2:Xf (Xh i n a b):=⟨hx.xp.unf hi,hlen⟩;rw [hX.inj hX2 (by rw [e2,Xn hlen])];exact Qw8 hin2 hg
 rw [Ma hx ho]at huc;cases huc
end
theorem Mi(m:Nat):m < 2^Yk m:=by
 unfold Yk
 split
 ·rename_i h;rw [h];decide
 exact Nat.lt_log2_self
theorem Qq6 {m k:Nat}(h:m < 2^k):Yk m<=k:=by
 unfold Yk
 split
 ·omega
 rename_i h0;have:=(Nat.log2_lt h0).2 h;omega
theorem Qnr {f:List Nd}(hc:check f=0):(Qp f).all (InB (Yk (Je (Qg f))) (Yk (Yl (Qg f)))):=by
 obtain⟨hw,_,hp,hh⟩:=Jw hc;have h:=Pw (P:=InB (Yk (Je (Qg f))) (Yk (Yl (Qg f)))) (fun _ k1 k2 h=>h.with k1 k2) hw (fun n hn=> ?_) ((Qg f).length - 1) (by omega)
 ·rw [show tr (Qg f) ((Qg f).length - 1)=Qp f from Xr hc]at h;exact h
 have hn1:=hh n hn;have ha:=fun i hi=>Ky (Mi (Je (Qg f))) ((Qyc (Qg f) 0).2 n hn i hi)
 have hf:=fun i hi=>Ky (Mi (Yl (Qg f))) ((Qy5 (Qg f) 0).2 n hn i hi)
 refine⟨fun ho=> ?_,fun i hi=>ha i (.inr hi),fun ho=> ?_⟩
 ·have h1:Zz n.op=true:=by rcases ho with h|h <;>(rw [h];rfl)
  have h2:=Gg hn1 h1;have:=ha n.i.toNat (.inl ⟨h1,rfl⟩);exact⟨h2.1,by omega⟩
 have h2:=Dx hn1 ho;have:=hf n.i.toNat ⟨ho,rfl⟩;exact⟨h2.1,by omega⟩
theorem Qt7 {lg:Int} {f:List Nd}(h:Fj lg f)(he:Zr lg f=0):∀s∈(Qr f).1.map Qp,s.all (InB (Yk (Je (Qg f))) (Yk (Yl (Qg f)))):=by
 have h4:Qr f=Vp (Qn (Vn (Qp f))):=by
  unfold Zr at he;cases ha:decide (lg < 0)||decide (6 < lg)
  ·rw [ha]at he;rw [<-h.e];exact(Mv he).2.2.2
  rw [ha]at he;cases he
 have h5:(Vp (Qn (Vn (Qp f)))).2=0:=by
  rw [<-h4];unfold Zr at he;cases ha:decide (lg < 0)||decide (6 < lg)
  ·rw [ha]at he;exact he
  rw [ha]at he;cases he
 rw [h4];exact Qao h.x h5 (Iz _ (Qnr h.ck))
def Vm(s:Nat)(ws:List Nat):Nat:=Kk ws.length fun i=>s.testBit (ws.getD i 0)
def Jp(md:Md)(ws:List Nat):Md:=⟨(ws.length:Int),md.val.map (fun s=>Vm s ws),md.rel.map fun r=>ws.map fun w=>Vm (r.getD w 0) ws⟩
theorem Qbx(s:Nat)(ws:List Nat)(i:Nat):(Vm s ws).testBit i=(decide (i < ws.length)&&s.testBit (ws.getD i 0)):=Db _ _ _
theorem Qzz(s:Nat)(ws:List Nat):Vm s ws < 2^ws.length:=Bf _ _
theorem Oh {md:Md}(h1:1<=md.n)(h2:md.n<=64)(h3:md.rel.length<=4)(h4:md.val.length<=8)(h5:∀r∈md.rel,(r.length:Int)=md.n)
 (h6:∀s∈md.val,s < 2^md.n.toNat)(h7:∀r∈md.rel,∀s∈r,s < 2^md.n.toNat):Zj md=0:=by
 have hb:∀l:List Nat,(∀s∈l,s < 2^md.n.toNat)->Zi l md.n.toNat=false:=fun l hl=>by
  unfold Zi;rw [List.any_eq_false];intro s hs;rw [decide_eq_true (hl s hs)];decide
 unfold Zj;rw [if_neg (by omega),if_neg (by omega),if_neg,if_neg,if_neg]
 ·rw [Bool.not_eq_true,List.any_eq_false];intro r hr;rw [hb r (h7 r hr)];decide
 ·rw [hb _ h6];decide
 rw [Bool.not_eq_true,List.any_eq_false];intro r hr;rw [decide_eq_true (h5 r hr)];decide
theorem Et {md:Md}(h:Zj md=0):(∀s∈md.val,s < 2^md.n.toNat)/\∀r∈md.rel,∀s∈r,s < 2^md.n.toNat:=by
 obtain⟨_,_,_,_,_,h1,h2⟩:=Zv h;have hb:∀l:List Nat,Zi l md.n.toNat=false->∀s∈l,s < 2^md.n.toNat:=fun l hl s hs=>by
  unfold Zi at hl;rw [List.any_eq_false]at hl;have:=hl s hs;rw [Bool.not_eq_true,Bool.not_eq_false']at this;exact of_decide_eq_true this
 exact⟨hb _ h1,fun r hr=>hb r (h2 r hr)⟩
theorem Qka {md:Md} {ws:List Nat}(h:Zj md=0)(h1:1<=ws.length)(h2:ws.length<=64):Zj (Jp md ws)=0:=by
 obtain⟨_,_,h3,h4,_,_,_⟩:=Zv h;refine Oh (show(1:Int)<=(ws.length:Int) by omega) (show(ws.length:Int)<=64 by omega) (by simp [Jp];exact h3) (by simp [Jp];exact h4) ?_ ?_ ?_
 ·intro r hr;obtain⟨r0,_,rfl⟩:=List.mem_map.1 hr;rw [List.length_map];rfl
 ·intro s hs;obtain⟨s0,_,rfl⟩:=List.mem_map.1 hs;exact Qzz _ _
 intro r hr s hs;obtain⟨r0,_,rfl⟩:=List.mem_map.1 hr;obtain⟨w,_,rfl⟩:=List.mem_map.1 hs;exact Qzz _ _
theorem Ll {md:Md}(h:Zj md=0):md.ok:=by
 obtain⟨h1,h2,_⟩:=Zv h;obtain⟨h3,h4⟩:=Et h;have h64:2^md.n.toNat<=18446744073709551616:=Sc (by omega);exact⟨by unfold Yo;omega,fun s hs=>Qy (h3 s hs) h64,fun r hr s hs=>Qy (h4 r hr s hs) h64⟩
def Qoo(md:Md)(ws:List Nat):Prop:=∀a,a < md.rel.length->∀u∈ws,∀v,((md.rel.getD a []).getD u 0).testBit v=true->v∈ws
theorem Qaa {md:Md} {ws:List Nat}(_hlt:∀w∈ws,w < md.n.toNat)(hcl:Qoo md ws)(hg:∀i:Fin (Jp md ws).n.toNat,ws.getD i.1 0 < md.n.toNat):
 Emb (Ko (Jp md ws)) (Ko md) md.rel.length md.val.length (fun i:Fin (Jp md ws).n.toNat=>(⟨ws.getD i.1 0,hg i⟩:Fin md.n.toNat)) where
 fact:=fun i h0 h1 u=>by
  have hu:u.1 < ws.length:=u.2;show((md.val.map fun s=>Vm s ws).getD i.toNat 0).testBit u.1=true↔(md.val.getD i.toNat 0).testBit (ws.getD u.1 0)=true;rw [Qk,List.getElem?_map,List.getElem?_eq_getElem (show i.toNat < md.val.length by omega),Qk,List.getElem?_eq_getElem (show i.toNat < md.val.length by omega)];show(Vm _ ws).testBit u.1=true↔_;rw [Qbx,decide_eq_true hu,Bool.true_and];rfl
 rel:=fun i h0 h1 u v=>by
  obtain⟨a,rfl⟩:=Int.eq_ofNat_of_zero_le h0;have ha:a < md.rel.length:=by omega
  have hu:u.1 < ws.length:=u.2;have hv:v.1 < ws.length:=v.2;refine(kmR (md:=Jp md ws) (show a < (Jp md ws).rel.length by simp [Jp];exact ha) u v).trans (Iff.trans ?_ (kmR ha (⟨ws.getD u.1 0,hg u⟩:Fin md.n.toNat) (⟨ws.getD v.1 0,hg v⟩:Fin md.n.toNat)).symm);show((((md.rel.map fun r=>ws.map fun w=>Vm (r.getD w 0) ws).getD a []).getD u.1 0).testBit v.1=true)↔((md.rel.getD a []).getD (ws.getD u.1 0) 0).testBit (ws.getD v.1 0)=true;have e1:(md.rel.map fun r=>ws.map fun w=>Vm (r.getD w 0) ws).getD a []=ws.map fun w=>Vm ((md.rel.getD a []).getD w 0) ws:=by
   rw [Qk,List.getElem?_map,Qv ha,Qk,Qv ha];rfl
  have e2:(ws.map fun w=>Vm ((md.rel.getD a []).getD w 0) ws).getD u.1 0=Vm ((md.rel.getD a []).getD (ws.getD u.1 0) 0) ws:=by
   rw [Qk,List.getElem?_map,Qv hu,Qk (l:=ws),Qv hu];rfl
  rw [e1,e2,Qbx,decide_eq_true hv,Bool.true_and]
 cl:=fun i h0 h1 u y hy=>by
  obtain⟨a,rfl⟩:=Int.eq_ofNat_of_zero_le h0;have ha:a < md.rel.length:=by omega
  have hu:u.1 < ws.length:=u.2;have hm:y.1∈ws:=hcl a ha (ws.getD u.1 0) (by rw [Qk,Qv hu];exact List.getElem_mem _) y.1 ((kmR ha _ _).1 hy);obtain⟨j,hj,e⟩:=List.getElem_of_mem hm;refine⟨⟨j,hj⟩,Fin.ext ?_⟩;show ws.getD j 0=y.1;rw [Qk,Qv hj];exact e
theorem Qnv {md:Md} {f:List Nd}(h:Yy md f=0):(Qp f).all (Qps md.rel.length md.val.length):=by
 obtain⟨hck,hc,hs,hf⟩:=Ks h;have h2:=Ng hc;have hcc:=Ux hc;have hs2:Ym (Yn (Qg f)) 15=true:=by unfold Yn at hs⊢;rw [h2];exact hs
 have hf2:Kf (Qg f) md.rel.length md.val.length=true:=by
  unfold Kf at hf⊢;rw [h2,hcc];rw [hc]at hf;exact hf
 rw [<-Xr hc];refine Pw (P:=Qps md.rel.length md.val.length) (fun n k1 k2 h=>h) (Vy hcc) (fun n hn=> ?_) _ (by have:=(Jr hcc).1;omega);obtain⟨k,hk⟩:=List.mem_iff_getElem?.1 hn;have hkl:=(List.getElem?_eq_some_iff.1 hk).1;have hr:=(Zv hck).2.2.1;have hN:=Qlb hcc hk (Qfd hcc h2 hs2 hf2 hkl) hr;refine⟨fun h3=>⟨(Dx hN.head h3).1,hN.fact h3⟩,fun h9=>⟨(Gg hN.head (by unfold Zz;rcases h9 with e|e <;> rw [e] <;> rfl)).1,hN.agent h9⟩,fun h11=> ?_⟩;have hg:=hN.group (by omega);refine⟨fun j hj=>Ky hg.2 hj,?_⟩;obtain⟨j,hj⟩:=Nat.exists_testBit_of_ne_zero (show n.g.toNat≠0 by omega)
 have:=Ky hg.2 hj;exact⟨j,by omega,hj⟩
theorem Qp1 {md md':Md} {f:List Nd}(h:Yy md f=0)(hc:Zj md'=0)(hr:md'.rel.length=md.rel.length)(hv:md'.val.length=md.val.length):Yy md' f=0:=by
 obtain⟨_,h1,h2,h3⟩:=Ks h;unfold Yy;rw [if_neg (by rw [hc];simp),if_neg (by rw [h1];simp),if_neg (by rw [h2];simp),hr,hv,if_neg (by rw [h3];simp)]
structure Xk (lg:Int) (f:List Nd) (md:Md) (k:Nat):Prop where
 ck:Yy md f=0
 lt:k < md.n.toNat
 good:Nk md lg
 sat:∀w:Fin md.n.toNat,w.1=k->(Ko md).sat (Qp f) w
noncomputable def cmN (lg:Int) (f:List Nd) (md:Md) (wd:Int):Int :=
 if lg < 0\/6 < lg then 1 else if Yy md f≠0 then Yy md f else if wd < 0\/md.n<=wd then 2 else if inG md lg=false then 12 else if(Gp md f).testBit wd.toNat=true then 0 else 11
theorem Qnt {md:Md} {lg:Int} :inG md lg=true↔Nk md lg:=by
 refine⟨fun h=>(Qfa h).2,fun h=> ?_⟩;unfold inG Qq3;rw [decide_eq_true h.ck,decide_eq_true h.lgr,Qfh.2 h.rel];rfl
theorem Kc {lg:Int} {f:List Nd} {md:Md} {wd:Int} :cmN lg f md wd=0↔∃k:Nat,wd=(k:Int)/\Xk lg f md k:=by
 unfold cmN;constructor
 ·intro h;by_cases h1:lg < 0\/6 < lg
  ·rw [if_pos h1]at h;cases h
  rw [if_neg h1]at h;by_cases h2:Yy md f≠0
  ·rw [if_pos h2]at h;exact absurd h h2
  rw [if_neg h2]at h;by_cases h3:wd < 0\/md.n<=wd
  ·rw [if_pos h3]at h;cases h
  rw [if_neg h3]at h;by_cases h4:inG md lg=false
  ·rw [if_pos h4]at h;cases h
  rw [if_neg h4]at h;by_cases h5:(Gp md f).testBit wd.toNat=true
  ·have h2':Yy md f=0:=Decidable.not_not.1 h2;refine⟨wd.toNat,by omega,h2',by omega,Qnt.1 (by rw [Bool.not_eq_false]at h4;exact h4),fun w hw=> ?_⟩;exact(Cc h2' w).1 (by rw [hw];exact h5)
  rw [if_neg h5]at h;cases h
 rintro⟨k,rfl,h⟩;have:=h.lt;have h2:=h.good.lgr;rw [if_neg (by omega),if_neg (by rw [h.ck];simp),if_neg (by omega),if_neg (by rw [Qnt.2 h.good];simp),if_pos];exact(Cc h.ck ⟨k,h.lt⟩).2 (h.sat _ rfl)
theorem Xk.part {lg:Int} {f:List Nd} {md:Md} {k:Nat}(h:Xk lg f md k) {ws:List Nat}(hlt:∀w∈ws,w < md.n.toNat)(hcl:Qoo md ws)(h64:ws.length<=64) {j:Nat}(hj:ws[j]?=some k):Xk lg f (Jp md ws) j:=by
 obtain⟨hjl,hje⟩:=List.getElem?_eq_some_iff.1 hj;have hg:∀i:Fin (Jp md ws).n.toNat,ws.getD i.1 0 < md.n.toNat:=fun i=>by
  have hi:i.1 < ws.length:=i.2;refine hlt _ ?_;rw [Qk,Qv hi];exact List.getElem_mem _
 have hE:=Qaa hlt hcl hg;have hck:=Qka h.good.ck (by omega) h64;refine⟨Qp1 h.ck hck (by simp [Jp]) (by simp [Jp]),hjl,?_,fun w hw=> ?_⟩
 ·refine(Wy hck h.good.lgr).2 fun a ha=> ?_
  rw [show(Jp md ws).rel.length=md.rel.length by simp [Jp]]at ha;exact hE.frm (by omega) (by omega) ((Wy h.good.ck h.good.lgr).1 h.good a ha)
 refine(hE.sat _ (Qnv h.ck) w).2 (h.sat _ ?_);show ws.getD w.1 0=k;rw [hw,Qk,hj];rfl
theorem Lg {a m b c:Nat}(ha:a < 256)(hm:m < 256):(a+256*b)&&&(m+256*c)=(a&&&m)+256*(b&&&c):=by
 have hs:∀{p q:Nat} (_:p < 256) (i:Nat),(p+256*q).testBit i=if i < 8 then p.testBit i else q.testBit (i - 8):=fun {p q} hp i=>by
  rw [Nat.add_comm,show(256:Nat)=2^8 from rfl,Nat.testBit_two_pow_mul_add _ hp]
 have hl:a&&&m < 256:=Nat.lt_of_le_of_lt Nat.and_le_left ha;refine Nat.eq_of_testBit_eq fun i=> ?_
 rw [Nat.testBit_and,hs ha,hs hm,hs hl];by_cases h:i < 8
 ·rw [if_pos h,if_pos h,if_pos h,Nat.testBit_and]
 rw [if_neg h,if_neg h,if_neg h,Nat.testBit_and]
def Nq(m:Nat):Nat->Nat
 |0=>0
 |k+1=>m+256*Nq m k
def st1(M x:Nat):Nat:=(x / 2&&&M)+(x&&&M)
def st2(M x:Nat):Nat:=(x / 4&&&M)+(x&&&M)
def st3(M x:Nat):Nat:=x / 16+x&&&M
def pc1(d:Nat):Nat:=(d / 2&&&85)+(d&&&85)
def pc2(d:Nat):Nat:=(d / 4&&&51)+(d&&&51)
def pc3(d:Nat):Nat:=d / 16+d&&&15
def pcB(d:Nat):Nat:=pc3 (pc2 (pc1 d))
theorem Zzz:∀d:Fin 256,∀c:Fin 2,(d.1 / 2+128*c.1)&&&85=(d.1 / 2&&&85):=by decide+kernel
theorem Zzj:∀d:Fin 256,∀c:Fin 4,(d.1 / 4+64*c.1)&&&51=(d.1 / 4&&&51):=by decide+kernel
theorem Qrn:∀d:Fin 256,pc1 d.1 < 256/\pc2 (pc1 d.1) % 16<=4/\pc2 (pc1 d.1)<=68/\pcB d.1<=8/\pcB d.1=(List.range 8).countP fun i=>d.1.testBit i:=by decide+kernel
theorem Zzy:∀d:Fin 69,∀c:Fin 5,(d.1 / 16+16*c.1+d.1)&&&15=pc3 d.1:=by decide+kernel
theorem Qpq {d y M:Nat}(hd:d < 256):st1 (85+256*M) (d+256*y)=pc1 d+256*st1 M y:=by
 unfold st1 pc1;have e:(d+256*y) / 2=(d / 2+128*(y % 2))+256*(y / 2):=by omega
 have h1:=Zzz ⟨d,hd⟩ ⟨y % 2,Nat.mod_lt _ (by decide)⟩;rw [e,Lg (by omega) (by decide),Lg hd (by decide),show(d / 2+128*(y % 2))&&&85=_ from h1,Nat.mul_add];exact Nat.add_add_add_comm _ _ _ _
theorem Qpz {d y M:Nat}(hd:d < 256):st2 (51+256*M) (d+256*y)=pc2 d+256*st2 M y:=by
 unfold st2 pc2;have e:(d+256*y) / 4=(d / 4+64*(y % 4))+256*(y / 4):=by omega
 have h1:=Zzj ⟨d,hd⟩ ⟨y % 4,Nat.mod_lt _ (by decide)⟩;rw [e,Lg (by omega) (by decide),Lg hd (by decide),show(d / 4+64*(y % 4))&&&51=_ from h1,Nat.mul_add];exact Nat.add_add_add_comm _ _ _ _
theorem Qpj {d y M:Nat}(hd:d<=68)(hy:y % 16<=4):st3 (15+256*M) (d+256*y)=pc3 d+256*st3 M y:=by
 unfold st3;have e:(d+256*y) / 16+(d+256*y)=(d / 16+16*(y % 16)+d)+256*(y / 16+y):=by omega
 have h1:=Zzy ⟨d,by omega⟩ ⟨y % 16,by omega⟩;rw [e,Lg (by omega) (by decide),show(d / 16+16*(y % 16)+d)&&&15=_ from h1]
def Qs9:Nat->Nat->Nat
 |0,_=>0
 |k+1,x=>pcB (x % 256)+256*Qs9 k (x / 256)
theorem Yf:∀(k x:Nat),x < 256^k->st2 (Nq 51 k) (st1 (Nq 85 k) x) % 16<=4/\st3 (Nq 15 k) (st2 (Nq 51 k) (st1 (Nq 85 k) x))=Qs9 k x
 |0,x,h=>by
  have:x=0:=by simpa using h
  subst this;decide
 |k+1,x,h=>by
  have hd:x % 256 < 256:=Nat.mod_lt _ (by decide);have hx:x / 256 < 256^k:=by rw [Nat.div_lt_iff_lt_mul (by decide),<-Nat.pow_succ];exact h
  obtain⟨ih1,ih2⟩:=Yf k (x / 256) hx;obtain⟨b1,b2,b3,_,_⟩:=Qrn ⟨x % 256,hd⟩;have e:x=x % 256+256*(x / 256):=by omega
  have e1:st1 (Nq 85 (k+1)) x=pc1 (x % 256)+256*st1 (Nq 85 k) (x / 256):=by
   conv=>lhs;rw [e]
   exact Qpq hd
  have e2:st2 (Nq 51 (k+1)) (st1 (Nq 85 (k+1)) x)=pc2 (pc1 (x % 256))+256*st2 (Nq 51 k) (st1 (Nq 85 k) (x / 256)):=by
   rw [e1];exact Qpz b1
  rw [e2];refine⟨by show(pc2 (pc1 (x % 256))+_) % 16<=4;have b2':pc2 (pc1 (x % 256)) % 16<=4:=b2;omega,?_⟩;show st3 (15+256*Nq 15 k) _=pc3 (pc2 (pc1 (x % 256)))+256*Qs9 k (x / 256);rw [Qpj b3 ih1,ih2]
def Xx(s k:Nat):Nat:=(List.range k).countP fun i=>s.testBit i
theorem Bo(k x:Nat):Xx x (8*(k+1))=pcB (x % 256)+Xx (x / 256) (8*k):=by
 obtain⟨_,_,_,_,b5⟩:=Qrn ⟨x % 256,Nat.mod_lt _ (by decide)⟩;have b5':pcB (x % 256)=(List.range 8).countP fun i=>(x % 256).testBit i:=b5
 unfold Xx;rw [b5',show 8*(k+1)=8+8*k by omega,List.range_add,List.countP_append,List.countP_map]
 congr 1
 ·refine List.countP_congr fun i hi=> ?_
  have hi8:=List.mem_range.1 hi;rw [show(256:Nat)=2^8 from rfl,Nat.testBit_mod_two_pow,decide_eq_true hi8,Bool.true_and]
 refine List.countP_congr fun i _=> ?_
 show x.testBit (8+i)=true↔(x / 256).testBit i=true;rw [show(256:Nat)=2^8 from rfl,Nat.testBit_div_two_pow,Nat.add_comm]
theorem Lp(d:Nat):pcB (d % 256)<=8:=(Qrn ⟨d % 256,Nat.mod_lt _ (by decide)⟩).2.2.2.1
def st4(x:Nat):Nat:=x+x / 256
def st5(x:Nat):Nat:=x+x / 65536
def st6(x:Nat):Nat:=x+x / 4294967296
theorem Zjk {p r:Nat}(hp:p < 256):(p+256*r) / 256=r:=by omega
theorem Zjx {p q r:Nat}(hp:p < 256)(hq:q < 256):(p+256*(q+256*r)) / 65536=r:=by omega
theorem Zjg {p q s t r:Nat}(hp:p < 256)(hq:q < 256)(hs:s < 256)(ht:t < 256):(p+256*(q+256*(s+256*(t+256*r)))) / 4294967296=r:=by omega
theorem Zjf {p q r s:Nat}(hp:p+q < 128):(p+256*r+(q+256*s)) % 128=p+q:=by omega
theorem Zjt {a b c d e f g h:Nat}(ha:a<=8)(hb:b<=8)(hc:c<=8)(hd:d<=8)(he:e<=8)(hf:f<=8)(hg:g<=8)(hh:h<=8):
 st6 (st5 (st4 (a+256*(b+256*(c+256*(d+256*(e+256*(f+256*(g+256*h))))))))) % 128=a+b+c+d+e+f+g+h:=by
 have e4:st4 (a+256*(b+256*(c+256*(d+256*(e+256*(f+256*(g+256*h)))))))=
  (a+b)+256*((b+c)+256*((c+d)+256*((d+e)+256*((e+f)+256*((f+g)+256*((g+h)+256*h)))))):=by
  unfold st4;rw [Zjk (by omega)];omega
 have e5:st5 ((a+b)+256*((b+c)+256*((c+d)+256*((d+e)+256*((e+f)+256*((f+g)+256*((g+h)+256*h)))))))=
  (a+b+(c+d))+256*((b+c+(d+e))+256*((c+d+(e+f))+256*((d+e+(f+g))+256*((e+f+(g+h))+256*((f+g+h)+256*((g+h)+256*h)))))):=by
  unfold st5;rw [Zjx (by omega) (by omega)];omega
 rw [e4,e5];unfold st6;rw [Zjg (by omega) (by omega) (by omega) (by omega),Zjf (by omega)];omega
theorem Qe9 {x:Nat}(hx:x < 18446744073709551616):
 st6 (st5 (st4 (st3 (Nq 15 8) (st2 (Nq 51 8) (st1 (Nq 85 8) x))))) % 128=Xx x 64:=by
 have h8:x < 256^8:=hx;rw [(Yf 8 x h8).2];have e:=(Zjt (Lp x) (Lp (x / 256)) (Lp (x / 256 / 256)) (Lp (x / 256 / 256 / 256)) (Lp (x / 256 / 256 / 256 / 256)) (Lp (x / 256 / 256 / 256 / 256 / 256)) (Lp (x / 256 / 256 / 256 / 256 / 256 / 256)) (Lp (x / 256 / 256 / 256 / 256 / 256 / 256 / 256)));have hs:Qs9 8 x=pcB (x % 256)+256*(pcB (x / 256 % 256)+256*(pcB (x / 256 / 256 % 256)+256*(pcB (x / 256 / 256 / 256 % 256)+256*(pcB (x / 256 / 256 / 256 / 256 % 256)+256*(pcB (x / 256 / 256 / 256 / 256 / 256 % 256)+256*(pcB (x / 256 / 256 / 256 / 256 / 256 / 256 % 256)+256*pcB (x / 256 / 256 / 256 / 256 / 256 / 256 / 256 % 256))))))):=rfl
 rw [hs,e];have c0:∀y:Nat,Xx y (8*0)=0:=fun y=>rfl
 rw [show(64:Nat)=8*8 from rfl,Bo 7,Bo 6,Bo 5,Bo 4,Bo 3,Bo 2,Bo 1,Bo 0,c0];omega
theorem Qg8(s k:Nat):Xx s (k+1)=Xx s k+if s.testBit k=true then 1 else 0:=by
 unfold Xx;rw [List.range_succ,List.countP_append,List.countP_singleton]
theorem Qfg {p:Nat->Bool} :∀(n k:Nat),k < n->p k=true->((List.range n).filter p)[(List.range k).countP p]?=some k:=by
 intro n k hk hp;have e:List.range n=List.range k++k :: List.range' (k+1) (n - k - 1):=by
  have h1:List.range n=List.range' 0 k++List.range' k (n - k):=by
   rw [List.range_eq_range'];have:=List.range'_append (s:=0) (m:=k) (n:=n - k) (step:=1);rw [Nat.zero_add,Nat.one_mul,show k+(n - k)=n by omega]at this;exact this.symm
  rw [h1,<-List.range_eq_range',show n - k=(n - k - 1)+1 by omega,List.range'_succ];rfl
 rw [e,List.filter_append,List.countP_eq_length_filter,List.getElem?_append_right (Nat.le_refl _),Nat.sub_self,List.filter_cons,if_pos hp];rfl
theorem Qxn {s w:Nat}(hw:w < 64)(hs:s.testBit w=true):(Zc s)[Xx s w]?=some w:=Qfg 64 w hw hs
theorem Qa8 {s w:Nat}(hw:w<=64):Xx (s&&&(2^w - 1)) 64=Xx s w:=by
 unfold Xx;rw [show(64:Nat)=w+(64 - w) by omega,List.range_add,List.countP_append,List.countP_map];have h2:List.countP ((fun i=>(s&&&(2^w - 1)).testBit i) ∘ fun x=>w+x) (List.range (64 - w))=0:=by
  rw [List.countP_eq_zero];intro i _;show ¬(s&&&(2^w - 1)).testBit (w+i)=true;rw [Nat.testBit_and,Nat.testBit_two_pow_sub_one,decide_eq_false (by omega),Bool.and_false];simp
 rw [h2,Nat.add_zero];refine List.countP_congr fun i hi=> ?_
 rw [Nat.testBit_and,Nat.testBit_two_pow_sub_one,decide_eq_true (List.mem_range.1 hi),Bool.and_true]
structure Sa (md:Md) (fr out:Nat):Prop where
 sub:∀i,fr.testBit i=true->out.testBit i=true
 cl:∀a,a < md.rel.length->∀u,out.testBit u=true->∀v,((md.rel.getD a []).getD u 0).testBit v=true->out.testBit v=true
 least:∀c:Nat->Prop,(∀i,fr.testBit i=true->c i)->(∀a,a < md.rel.length->∀u,c u->∀v,((md.rel.getD a []).getD u 0).testBit v=true->c v)->∀i,out.testBit i=true->c i
theorem Sa.uniq {md:Md} {fr o1 o2:Nat}(h1:Sa md fr o1)(h2:Sa md fr o2):o1=o2:=by
 refine Nat.eq_of_testBit_eq fun i=> ?_
 have a:=h1.least (fun i=>o2.testBit i=true) h2.sub h2.cl i;have b:=h2.least (fun i=>o1.testBit i=true) h1.sub h1.cl i;cases e1:o1.testBit i <;> cases e2:o2.testBit i
 ·rfl
 ·rw [b e2]at e1;cases e1
 ·rw [a e1]at e2;cases e2
 rfl
structure Lh (md:Md) (fr todo out:Nat):Prop where
 sub:∀i,fr.testBit i=true->out.testBit i=true
 tod:∀i,todo.testBit i=true->out.testBit i=true
 cl:∀a,a < md.rel.length->∀u,out.testBit u=true->todo.testBit u=false->∀v,((md.rel.getD a []).getD u 0).testBit v=true->out.testBit v=true
 least:∀c:Nat->Prop,(∀i,fr.testBit i=true->c i)->(∀a,a < md.rel.length->∀u,c u->∀v,((md.rel.getD a []).getD u 0).testBit v=true->c v)->∀i,out.testBit i=true->c i
theorem Lh.start(md:Md)(fr:Nat):Lh md fr fr fr:=⟨fun _ h=>h,fun _ h=>h,fun _ _ u h1 h2=>(by rw [h1]at h2;cases h2),fun _ h _=>h⟩
theorem Lh.done {md:Md} {fr out:Nat}(h:Lh md fr 0 out):Sa md fr out:=⟨h.sub,fun a ha u hu=>h.cl a ha u hu (Nat.zero_testBit u),h.least⟩
structure Qz8 (md:Md) (fr w k todo out:Nat):Prop where
 sub:∀i,fr.testBit i=true->out.testBit i=true
 tod:∀i,todo.testBit i=true->out.testBit i=true
 here:out.testBit w=true
 cl:∀a,a < md.rel.length->∀u,u≠w->out.testBit u=true->todo.testBit u=false->∀v,((md.rel.getD a []).getD u 0).testBit v=true->out.testBit v=true
 seen:∀a,a < k->∀v,((md.rel.getD a []).getD w 0).testBit v=true->out.testBit v=true
 least:∀c:Nat->Prop,(∀i,fr.testBit i=true->c i)->(∀a,a < md.rel.length->∀u,c u->∀v,((md.rel.getD a []).getD u 0).testBit v=true->c v)->∀i,out.testBit i=true->c i
theorem Lh.enter {md:Md} {fr todo out:Nat}(h:Lh md fr todo out)(hw:Qw todo)(h0:todo≠0):Qz8 md fr (Fp todo) 0 (todo&&&(todo - 1)) out:=by
 obtain⟨_,h1,h2⟩:=Pn hw h0;have hb:=Be h1 h2;refine⟨h.sub,fun i hi=>h.tod i ?_,h.tod _ h1,fun a ha u hu hou htu=>h.cl a ha u hou ?_,fun a ha=>absurd ha (by omega),h.least⟩
 ·rw [hb i,Bool.and_eq_true]at hi;exact hi.1
 rw [hb u,decide_eq_false hu]at htu;simpa using htu
theorem Qz8.step {md:Md} {fr w k todo out:Nat}(h:Qz8 md fr w k todo out)(hk:k < md.rel.length):
 Qz8 md fr w (k+1) (todo|||Jz ((md.rel.getD k []).getD w 0) out) (out|||(md.rel.getD k []).getD w 0):=by
 refine⟨fun i hi=> ?_,fun i hi=> ?_,?_,fun a ha u hu hou htu v hv=> ?_,fun a ha v hv=> ?_,fun c h1 h2 i hi=> ?_⟩
 ·rw [Nat.testBit_or,h.sub i hi,Bool.true_or]
 ·rw [Nat.testBit_or,Bool.or_eq_true,Xe,Bool.and_eq_true]at hi;rw [Nat.testBit_or,Bool.or_eq_true];rcases hi with hi|hi
  ·exact Or.inl (h.tod i hi)
  exact Or.inr hi.1
 ·rw [Nat.testBit_or,h.here,Bool.true_or]
 ·rw [Nat.testBit_or,Bool.or_eq_false_iff,Xe]at htu;rw [Nat.testBit_or,Bool.or_eq_true]at hou;rw [Nat.testBit_or,Bool.or_eq_true];refine Or.inl ?_;cases ho:out.testBit u
  ·rw [ho]at hou htu;have h3:=hou.resolve_left (by simp);rw [h3]at htu;simp at htu
  exact h.cl a ha u hu ho htu.1 v hv
 ·rw [Nat.testBit_or,Bool.or_eq_true];by_cases e:a=k
  ·rw [<-e];exact Or.inr hv
  exact Or.inl (h.seen a (by omega) v hv)
 rw [Nat.testBit_or,Bool.or_eq_true]at hi;rcases hi with hi|hi
 ·exact h.least c h1 h2 i hi
 exact h2 k hk w (h.least c h1 h2 w h.here) i hi
theorem Qz8.leave {md:Md} {fr w todo out:Nat}(h:Qz8 md fr w md.rel.length todo out):Lh md fr todo out:=by
 refine⟨h.sub,h.tod,fun a ha u hu htu v hv=> ?_,h.least⟩;by_cases e:u=w
 ·rw [e]at hv;exact h.seen a ha v hv
 exact h.cl a ha u e hu htu v hv
def Wq(todo out:Nat):Nat:=((List.range 64).map fun i=>if out.testBit i=true then(if todo.testBit i=true then 1 else 0)else 2).sum
theorem Qbt {f g:Nat->Nat} :∀(l:List Nat),(∀i∈l,f i<=g i)->(l.map f).sum<=(l.map g).sum
 |[],_=>Nat.le_refl _
 |a :: l,h=>by
  have h1:=Qbt l (fun i hi=>h i (List.mem_cons_of_mem _ hi));have h2:=h a (List.mem_cons_self ..);simp only [List.map_cons,List.sum_cons];omega
theorem Qpk {f g:Nat->Nat} :∀(l:List Nat),(∀i∈l,f i<=g i)->(∃i∈l,f i < g i)->(l.map f).sum < (l.map g).sum
 |[],_,⟨i,hi,_⟩=>by cases hi
 |a :: l,h,⟨i,hi,hlt⟩=>by
  have h1:=Qbt l (fun i hi=>h i (List.mem_cons_of_mem _ hi));have h2:=h a (List.mem_cons_self ..);simp only [List.map_cons,List.sum_cons];rcases List.mem_cons.1 hi with rfl|hi
  ·omega
  have h3:=Qpk l (fun i hi=>h i (List.mem_cons_of_mem _ hi)) ⟨i,hi,hlt⟩;omega
theorem Qls {todo out:Nat}(hw:Qw todo)(h0:todo≠0)(hs:∀i,todo.testBit i=true->out.testBit i=true):Wq (todo&&&(todo - 1)) out < Wq todo out:=by
 obtain⟨h64,h1,h2⟩:=Pn hw h0;have hb:=Be h1 h2;refine Qpk _ (fun i _=> ?_) ⟨Fp todo,List.mem_range.2 h64,?_⟩
 ·rw [hb i];cases out.testBit i <;> cases todo.testBit i <;> cases decide (i=Fp todo) <;> simp
 rw [hb,h1,hs _ h1];simp
theorem Qcr {todo out r:Nat} :Wq (todo|||Jz r out) (out|||r)<=Wq todo out:=by
 refine Qbt _ fun i _=> ?_
 rw [Nat.testBit_or,Nat.testBit_or,Xe];cases out.testBit i <;> cases todo.testBit i <;> cases r.testBit i <;> simp
def Fy(md:Md)(w:Nat):Md:=Jp md (Zc (Jz (Zx md.n.toNat) (2^w)))
def Kx(k w:Nat):Nat:=if w < k then k - 1 else k
theorem Nl(n w i:Nat):(Jz (Zx n) (2^w)).testBit i=(decide (i < n)&& !decide (w=i)):=by
 rw [Xe,Vl,Nat.testBit_two_pow]
theorem Qjb(n w:Nat):∀k,k<=n->Xx (Jz (Zx n) (2^w)) k=if w < k then k - 1 else k
 |0,_=>by simp [Xx]
 |k+1,h=>by
  rw [Qg8,Qjb n w k (by omega),Nl,decide_eq_true (show k < n by omega),Bool.true_and];by_cases e:w=k
  ·rw [decide_eq_true e,if_neg (by omega),if_neg (by simp),if_pos (by omega)];omega
  rw [decide_eq_false e,if_pos (show(!false)=true from rfl)];by_cases h2:w < k
  ·rw [if_pos h2,if_pos (by omega)];omega
  rw [if_neg h2,if_neg (by omega)]
theorem Qr0 {n w k:Nat}(hn:n<=64)(hk:k < n)(hwk:w≠k):(Zc (Jz (Zx n) (2^w)))[Kx k w]?=some k:=by
 have h:=Qxn (s:=Jz (Zx n) (2^w)) (w:=k) (by omega) (by rw [Nl,decide_eq_true hk,decide_eq_false hwk];rfl);rw [Qjb n w k (by omega)]at h;exact h
theorem Qkd(s:Nat):(Zc s).length=Xx s 64:=by
 unfold Zc Xx;rw [List.countP_eq_length_filter]
theorem Qjx {s n:Nat}(hs:s < 2^n):∀k,n<=k->Xx s k=Xx s n
 |0,h=>by rw [show n=0 by omega]
 |k+1,h=>by
  by_cases e:n=k+1
  ·rw [e]
  have hb:s.testBit k=false:=Nat.testBit_lt_two_pow (Qy hs (Nat.pow_le_pow_right (by decide) (by omega)));rw [Qg8,Qjx hs k (by omega),hb,if_neg (by simp),Nat.add_zero]
theorem Qp8(n w:Nat):Jz (Zx n) (2^w) < 2^n:=Nat.lt_pow_two_of_testBit _ fun i hi=>by
 rw [Nl,decide_eq_false (by omega),Bool.false_and]
theorem Qjd {n w:Nat}(hn:n<=64)(hw:w < n):(Zc (Jz (Zx n) (2^w))).length=n - 1:=by
 rw [Qkd,Qjx (Qp8 n w) 64 hn,Qjb n w n (Nat.le_refl _),if_pos hw]
inductive Sx (lg:Int) (f:List Nd):Md->Nat->Md->Nat->Prop
 |done {md:Md} {k:Nat} :(∀w,w < md.n.toNat->w≠k->cmN lg f (Fy md w) (Kx k w:Nat)≠0)->Sx lg f md k md k
 |step {md md':Md} {k k' w:Nat} :w < md.n.toNat->w≠k->cmN lg f (Fy md w) (Kx k w:Nat)=0->
  (∀u,w < u->u < md.n.toNat->u≠k->cmN lg f (Fy md u) (Kx k u:Nat)≠0)->Sx lg f (Fy md w) (Kx k w) md' k'->Sx lg f md k md' k'
theorem Sx.uniq {lg:Int} {f:List Nd} {md a b:Md} {k i j:Nat}(h1:Sx lg f md k a i)(h2:Sx lg f md k b j):a=b/\i=j:=by
 induction h1 with
 |done hd =>
  cases h2 with
  |done _=>exact⟨rfl,rfl⟩
  |step hw hk hc _ _=>exact absurd hc (hd _ hw hk)
 |@step md md' k k' w hw hk hc hn _ ih =>
  cases h2 with
  |done hd=>exact absurd hc (hd _ hw hk)
  |@step _ _ _ _ u hw2 hk2 hc2 hn2 h3 =>
   have e:w=u:=by
    rcases Nat.lt_trichotomy w u with h|h|h
    ·exact absurd hc2 (hn u h hw2 hk2)
    ·exact h
    exact absurd hc (hn2 w h hw hk)
   subst e;exact ih h3
theorem Sx.ok {lg:Int} {f:List Nd} {md md':Md} {k k':Nat}(h:Sx lg f md k md' k')(hc:Xk lg f md k):
 Xk lg f md' k'/\md'.n<=md.n/\(∀w,w < md'.n.toNat->w≠k'->cmN lg f (Fy md' w) (Kx k' w:Nat)≠0)/\(md'.n=md.n->md'=md/\k'=k):=by
 induction h with
 |done hd=>exact⟨hc,Int.le_refl _,hd,fun _=>⟨rfl,rfl⟩⟩
 |@step md md' k k' w hw hk hz hn _ ih =>
  obtain⟨j,hj,hok⟩:=Kc.1 hz;have ej:j=Kx k w:=by omega
  rw [ej]at hok;obtain⟨h1,h2,h3,_⟩:=ih hok;have hn64:=(Zv hc.good.ck).2.1;have hl:(Fy md w).n=((md.n.toNat - 1:Nat):Int):=by
   show((Zc (Jz (Zx md.n.toNat) (2^w))).length:Int)=_;rw [Qjd (by omega) hw]
  rw [hl]at h2;exact⟨h1,by omega,h3,fun e=>by omega⟩
theorem Sa.part {lg:Int} {f:List Nd} {md:Md} {k out:Nat}(hg:Sa md (2^k) out)(hc:Xk lg f md k):Xk lg f (Jp md (Zc out)) (Xx out k)/\(Zc out).length<=md.n.toNat/\out < 2^md.n.toNat:=by
 have hn64:=(Zv hc.good.ck).2.1;have hlow:∀i,out.testBit i=true->i < md.n.toNat:=fun i hi=>by
  refine hg.least (fun i=>i < md.n.toNat) (fun i hi=> ?_) (fun a _ u _ v hv=>(Fo hc.good.ck a u v hv).2) i hi;rw [Nat.testBit_two_pow,decide_eq_true_iff]at hi;have:=hc.lt;omega
 have ho:out < 2^md.n.toNat:=Nat.lt_pow_two_of_testBit _ fun i hi=>by
  cases hb:out.testBit i
  ·rfl
  exact absurd (hlow i hb) (by omega)
 have hlt:∀w∈Zc out,w < md.n.toNat:=fun w hw=>hlow w (Bd.1 hw).2
 have hk:=hc.lt;have hle:(Zc out).length<=md.n.toNat:=by
  rw [Qkd,Qjx ho 64 (by omega)];unfold Xx;exact Qx (List.countP_le_length) (by rw [List.length_range];exact Nat.le_refl _)
 refine⟨hc.part hlt (fun a ha u hu v hv=> ?_) (by omega) (Qxn (by omega) (hg.sub k (by rw [Nat.testBit_two_pow];simp))),hle,ho⟩;have:=hg.cl a ha u (Bd.1 hu).2 v hv;have h2:=hlow v this;exact Bd.2 ⟨by omega,this⟩
def Jo(n a v:Nat):Nat:=n*v+n*n*a
def Xl(n k j:Nat):Nat:=k / 2^(n*j) % 2^n
def Ur(n a v k:Nat):Md:=⟨(n:Int),(List.range v).map fun j=>Xl n k j,(List.range a).map fun i=>(List.range n).map fun u=>Xl n k (v+(n*i+u))⟩
theorem Qt1(n k j:Nat):Xl n k j < 2^n:=Nat.mod_lt _ (Nat.two_pow_pos n)
theorem Qey(n k j b:Nat):(Xl n k j).testBit b=(decide (b < n)&&k.testBit (n*j+b)):=by
 unfold Xl;rw [Nat.testBit_mod_two_pow,Nat.testBit_div_two_pow,Nat.add_comm]
theorem Qmr {n a v k:Nat}(h1:1<=n)(h2:n<=64)(h3:a<=4)(h4:v<=8):Zj (Ur n a v k)=0:=by
 refine Oh (show(1:Int)<=(n:Int) by omega) (show(n:Int)<=64 by omega) (by simp [Ur];exact h3) (by simp [Ur];exact h4) ?_ ?_ ?_
 ·intro r hr;obtain⟨i,_,rfl⟩:=List.mem_map.1 hr;rw [List.length_map,List.length_range];rfl
 ·intro s hs;obtain⟨j,_,rfl⟩:=List.mem_map.1 hs;exact Qt1 _ _ _
 intro r hr s hs;obtain⟨i,_,rfl⟩:=List.mem_map.1 hr;obtain⟨u,_,rfl⟩:=List.mem_map.1 hs;exact Qt1 _ _ _
def Cz(md:Md)(n v j:Nat):Nat:=if j < v then md.val.getD j 0 else(md.rel.getD ((j - v) / n) []).getD ((j - v) % n) 0
theorem Qe6 {md:Md} {n a v:Nat}(hck:Zj md=0)(hn:md.n=(n:Int))(ha:md.rel.length=a)(hv:md.val.length=v):∃k,k < 2^Jo n a v/\Ur n a v k=md:=by
 obtain⟨h1,_,_,_,h5,_,_⟩:=Zv hck;obtain⟨h6,h7⟩:=Et hck;have hn1:1<=n:=by omega
 have hnt:md.n.toNat=n:=by omega
 rw [hnt]at h6 h7;obtain⟨k,hk⟩:∃k,k=Kk (Jo n a v) (fun p=>(Cz md n v (p / n)).testBit (p % n)):=⟨_,rfl⟩;have hdig:∀j,j < v+n*a->Cz md n v j < 2^n->Xl n k j=Cz md n v j:=fun j hj hlt=>by
  refine Nat.eq_of_testBit_eq fun b=> ?_
  rw [Qey];by_cases hb:b < n
  ·rw [decide_eq_true hb,Bool.true_and,hk,Db];have e1:(n*j+b) / n=j:=by rw [Nat.mul_add_div hn1,Nat.div_eq_of_lt hb,Nat.add_zero]
   have e2:(n*j+b) % n=b:=by rw [Nat.mul_add_mod,Nat.mod_eq_of_lt hb]
   have e3:n*j+b < Jo n a v:=by
    unfold Jo;have h1:n*(j+1)<=n*(v+n*a):=Nat.mul_le_mul_left n hj;rw [Nat.mul_add,Nat.mul_add,Nat.mul_one,<-Nat.mul_assoc]at h1;omega
   rw [decide_eq_true e3,Bool.true_and,e1,e2]
  rw [decide_eq_false hb,Bool.false_and];exact(Nat.testBit_lt_two_pow (Qy hlt (Nat.pow_le_pow_right (by decide) (by omega)))).symm
 refine⟨k,by rw [hk];exact Bf _ _,?_⟩;obtain⟨mn,mv,mr⟩:=md;have hn':mn=(n:Int):=hn;have hv':mv.length=v:=hv;have ha':mr.length=a:=ha;subst hn';have ev:(List.range v).map (fun j=>Xl n k j)=mv:=by
  refine List.ext_getElem (by simp [hv']) fun j hj1 hj2=> ?_
  rw [List.getElem_map,List.getElem_range];have e:Cz ⟨(n:Int),mv,mr⟩ n v j=mv[j]:=by
   unfold Cz;rw [if_pos (by omega),Qk,Qv hj2];rfl
  rw [hdig j (by omega) (by rw [e];exact h6 _ (List.getElem_mem hj2)),e]
 have er:(List.range a).map (fun i=>(List.range n).map fun u=>Xl n k (v+(n*i+u)))=mr:=by
  refine List.ext_getElem (by simp [ha']) fun i hi1 hi2=> ?_
  rw [List.getElem_map,List.getElem_range];have hl:=h5 _ (List.getElem_mem hi2);have hl2:(mr[i]).length=n:=by
   have:(((mr[i]).length:Nat):Int)=(n:Int):=hl;omega
  refine List.ext_getElem (by simp [hl2]) fun u hu1 hu2=> ?_
  rw [List.getElem_map,List.getElem_range];have hun:u < n:=by omega
  have e:Cz ⟨(n:Int),mv,mr⟩ n v (v+(n*i+u))=(mr[i])[u]:=by
   unfold Cz;rw [if_neg (by omega),Nat.add_sub_cancel_left,Nat.mul_add_div hn1,Nat.div_eq_of_lt hun,Nat.add_zero,Nat.mul_add_mod,Nat.mod_eq_of_lt hun];show(mr.getD i []).getD u 0=_;rw [Qk (l:=mr),Qv hi2,Option.getD_some,Qk,Qv hu2];rfl
  have hlt:v+(n*i+u) < v+n*a:=by
   have h1:n*(i+1)<=n*a:=Nat.mul_le_mul_left n (by omega);rw [Nat.mul_add,Nat.mul_one]at h1;omega
  rw [hdig _ hlt (by rw [e];exact h7 _ (List.getElem_mem hi2) _ (List.getElem_mem hu2)),e]
 unfold Ur;rw [ev,er]
def We(md:Md)(a v:Nat):Md:=⟨md.n,md.val.take v,md.rel.take a⟩
theorem Qcf {f:List Nd}(hc:check f=0):Kf f (Yk (Je (Qg f))) (Yk (Yl (Qg f)))=true:=by
 unfold Kf;rw [Bool.and_eq_true,Bool.and_eq_true,List.all_eq_true,List.all_eq_true];refine⟨by rw [hc];rfl,fun i _=> ?_,fun i _=> ?_⟩
 ·unfold Nm;rw [Bool.or_eq_true,decide_eq_true_iff];cases hb:(Je (Qg f)).testBit i
  ·exact Or.inl rfl
  exact Or.inr (Ky (Mi _) hb)
 unfold Nm;rw [Bool.or_eq_true,decide_eq_true_iff];cases hb:(Yl (Qg f)).testBit i
 ·exact Or.inl rfl
 exact Or.inr (Ky (Mi _) hb)
theorem Qnn {f:List Nd} {a b:Nat}(hc:check f=0)(h:Kf f a b=true):Yk (Je (Qg f))<=a/\Yk (Yl (Qg f))<=b:=by
 have hh:=(Jw hc).2.2.2;unfold Kf at h;rw [Bool.and_eq_true,Bool.and_eq_true,List.all_eq_true,List.all_eq_true]at h;have hA:=Rq (Qg f) 0 hh (by decide);have hF:=Tj (Qg f) 0 hh (by decide);refine⟨Qq6 (Nat.lt_pow_two_of_testBit _ fun i hi=> ?_),Qq6 (Nat.lt_pow_two_of_testBit _ fun i hi=> ?_)⟩
 ·cases hb:(Je (Qg f)).testBit i
  ·rfl
  have h4:=Ky hA hb;have:=h.2.1 i (List.mem_range.2 h4);unfold Nm at this;rw [hb,decide_eq_false (by omega)]at this;cases this
 cases hb:(Yl (Qg f)).testBit i
 ·rfl
 have h4:=Ky hF hb;have:=h.2.2 i (List.mem_range.2 h4);unfold Nm at this;rw [hb,decide_eq_false (by omega)]at this;cases this
theorem Xk.red {lg:Int} {f:List Nd} {md:Md} {k:Nat}(h:Xk lg f md k):Xk lg f (We md (Yk (Je (Qg f))) (Yk (Yl (Qg f)))) k:=by
 obtain⟨hck,hc,hs,hf⟩:=Ks h.ck;obtain⟨hA,hF⟩:=Qnn hc hf;have hfl:=Qcf hc;obtain⟨A,hA1⟩:∃A,A=Yk (Je (Qg f)):=⟨_,rfl⟩;obtain⟨F,hF1⟩:∃F,F=Yk (Yl (Qg f)):=⟨_,rfl⟩;rw [<-hA1]at hA hfl⊢;rw [<-hF1]at hF hfl⊢;obtain⟨h1,h2,h3,h4,h5,_,_⟩:=Zv hck;obtain⟨h6,h7⟩:=Et hck;have hrl:(We md A F).rel.length=A:=by show(md.rel.take A).length=A;rw [List.length_take];omega
 have hvl:(We md A F).val.length=F:=by show(md.val.take F).length=F;rw [List.length_take];omega
 have hck2:Zj (We md A F)=0:=Oh h1 h2 (by omega) (by omega) (fun r hr=>h5 r (List.mem_of_mem_take hr)) (fun s hs=>h6 s (List.mem_of_mem_take hs)) (fun r hr=>h7 r (List.mem_of_mem_take hr));have hch:Yy (We md A F) f=0:=by
  unfold Yy;rw [if_neg (by rw [hck2];simp),if_neg (by rw [hc];simp),if_neg (by rw [hs];simp),hrl,hvl,if_neg (by rw [hfl];simp)]
 have hE:Emb (Ko (We md A F)) (Ko md) A F (fun i:Fin md.n.toNat=>i):=by
  refine⟨fun i h0 h1 u=> ?_,fun i h0 h1 u v=> ?_,fun i h0 h1 u y _=>⟨y,rfl⟩⟩
  ·show((md.val.take F).getD i.toNat 0).testBit u.1=true↔(md.val.getD i.toNat 0).testBit u.1=true;rw [Qk,List.getElem?_take,if_pos (by omega),Qk]
  obtain⟨a,rfl⟩:=Int.eq_ofNat_of_zero_le h0;have ha:a < A:=by omega
  refine(kmR (md:=We md A F) (show a < (We md A F).rel.length by omega) u v).trans (Iff.trans ?_ (kmR (md:=md) (by omega) u v).symm);show((((md.rel.take A).getD a []).getD u.1 0).testBit v.1=true)↔((md.rel.getD a []).getD u.1 0).testBit v.1=true;rw [show(md.rel.take A).getD a []=md.rel.getD a [] by rw [Qk,List.getElem?_take,if_pos ha,Qk]]
 refine⟨hch,h.lt,(Wy hck2 h.good.lgr).2 fun a ha=> ?_,fun w hw=> ?_⟩
 ·rw [hrl]at ha;exact hE.frm (by omega) (by omega) ((Wy hck h.good.lgr).1 h.good a (by omega))
 have:=Qnv hch;rw [hrl,hvl]at this;exact(hE.sat _ this w).2 (h.sat w hw)
theorem Xk.num {lg:Int} {f:List Nd} {md:Md} {k:Nat}(h:Xk lg f md k):
 ∃j,j < 2^Jo md.n.toNat (Yk (Je (Qg f))) (Yk (Yl (Qg f)))/\Xk lg f (Ur md.n.toNat (Yk (Je (Qg f))) (Yk (Yl (Qg f))) j) 0:=by
 obtain⟨hck,hc,hs,hf⟩:=Ks h.ck;obtain⟨h1,h2,_⟩:=Zv hck;have hk:=h.lt;obtain⟨ws,hws⟩:∃ws,ws=(List.range md.n.toNat).map (fun i=>if i=0 then k else if i=k then 0 else i):=⟨_,rfl⟩;have hlen:ws.length=md.n.toNat:=by rw [hws,List.length_map,List.length_range]
 have hmem:∀u,u < md.n.toNat->u∈ws:=fun u hu=>by
  rw [hws,List.mem_map];by_cases e:u=k
  ·exact⟨0,List.mem_range.2 (by omega),by rw [if_pos rfl,e]⟩
  by_cases e0:u=0
  ·exact⟨k,List.mem_range.2 hk,by rw [if_neg (by omega),if_pos rfl,e0]⟩
  exact⟨u,List.mem_range.2 hu,by rw [if_neg e0,if_neg e]⟩
 have hlt:∀w∈ws,w < md.n.toNat:=fun u hu=>by
  rw [hws,List.mem_map]at hu;obtain⟨i,hi,rfl⟩:=hu;have:=List.mem_range.1 hi
  split
  ·exact hk
  split <;> omega
 have hj0:ws[0]?=some k:=by
  rw [hws,List.getElem?_map,List.getElem?_range (by omega)];rfl
 have h3:=(h.part hlt (fun a _ u _ v hv=>hmem v (Fo hck a u v hv).2) (by omega) hj0).red;have hfa:=Qnn hc hf
 obtain⟨j,hj,e⟩:=Qe6 (md:=We (Jp md ws) (Yk (Je (Qg f))) (Yk (Yl (Qg f)))) (n:=md.n.toNat) (a:=Yk (Je (Qg f))) (v:=Yk (Yl (Qg f))) h3.good.ck (by show(ws.length:Int)=_;rw [hlen])
  (by show((Jp md ws).rel.take _).length=_;rw [List.length_take,show(Jp md ws).rel.length=md.rel.length by simp [Jp]];omega)
  (by show((Jp md ws).val.take _).length=_;rw [List.length_take,show(Jp md ws).val.length=md.val.length by simp [Jp]];omega)
 exact⟨j,hj,by rw [e];exact h3⟩
theorem Qm3(s:Nat):(Zc s).Nodup:=List.Nodup.sublist (List.filter_sublist) List.nodup_range
theorem Qt4 {n v k i:Nat}(hn:n<=64)(hk:k < n)(hv:v≠k)(h:(Zc (Jz (Zx n) (2^v)))[i]?=some k):i=Kx k v:=by
 have h2:=Qr0 hn hk hv;obtain⟨h3,e3⟩:=List.getElem?_eq_some_iff.1 h;obtain⟨h4,e4⟩:=List.getElem?_eq_some_iff.1 h2;have hp:=List.pairwise_iff_getElem.1 (Qm3 (Jz (Zx n) (2^v)));rcases Nat.lt_trichotomy i (Kx k v)with h5|h5|h5
 ·exact absurd (e3.trans e4.symm) (hp _ _ h3 h4 h5)
 ·exact h5
 exact absurd (e4.trans e3.symm) (hp _ _ h4 h3 h5)
theorem Qp9:∀n:Fin 9,∀v:Fin 9,v.1 < n.1->2^n.1 - 1 - 2^v.1=Jz (Zx n.1) (2^v.1):=by decide+kernel
theorem Qvw {lg:Int} {f:List Nd} {md md':Md} {k k' out:Nat}(hc:Xk lg f md k)(hg:Sa md (2^k) out)(hs:Sx lg f (Jp md (Zc out)) (Xx out k) md' k'):
 Xk lg f md' k'/\md'.n<=md.n/\∀w i:Nat,w < md'.n.toNat->w≠k'->(Zc (Jz (Zx md'.n.toNat) (2^w)))[i]?=some k'->cmN lg f (Fy md' w) (i:Int)≠0:=by
 obtain⟨h1,h2,_⟩:=hg.part hc;obtain⟨h3,h4,h5,_⟩:=hs.ok h1;have hn64:=(Zv h3.good.ck).2.1;refine⟨h3,?_,fun w i hw hk hi=> ?_⟩
 ·have e:(Jp md (Zc out)).n=((Zc out).length:Int):=rfl;have:=h3.lt;have:=(Zv hc.good.ck).1;omega
 rw [Qt4 (by omega) h3.lt hk hi];exact h5 w hw hk
theorem Qk6 {lg:Int} {f:List Nd} {md:Md} {k N:Nat}(hc:Xk lg f md k)
 (hn:∀m j,1<=m->m < N->j < 2^Jo m (Yk (Je (Qg f))) (Yk (Yl (Qg f)))->cmN lg f (Ur m (Yk (Je (Qg f))) (Yk (Yl (Qg f))) j) 0≠0):N<=md.n.toNat:=by
 obtain⟨j,hj,hok⟩:=hc.num;have h1:=(Zv hc.good.ck).1;rcases Nat.lt_or_ge md.n.toNat N with h|h
 ·exact absurd (Kc.2 ⟨0,rfl,hok⟩) (hn _ j (by omega) h hj)
 exact h
end Go.Proofs.YtkmclcmnoicagaaGreatDoor
