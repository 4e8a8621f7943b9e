/- Agents and facts of a formula's expansion and base are among the formula's (plain). -/
import Derived.Test.YtkmclcmnoicagaaGreatDoorH20
namespace Go.Proofs.YtkmclcmnoicagaaGreatDoor
set_option maxRecDepth 100000
set_option maxHeartbeats 128000000
structure Nq (A F:Nat) (n:Nd):Prop where
 agent:n.op=9\/n.op=10->0<=n.i/\n.i < A
 group:∀i:Nat,Vg n.g i=true->i < A
 fact:n.op=3->0<=n.i/\n.i < F
section
variable {A F:Nat}
theorem Nq.with {n:Nd}(h:Nq A F n)(k1 k2:Nat):Nq A F (n.with_ k1 k2):=⟨h.agent,h.group,h.fact⟩
theorem Lj {op:Int}(h:op=1\/op=4\/op=5\/op=7):Nq A F ⟨op,0,0,0,0,0⟩:=
 ⟨fun e=>by have:op=9\/op=10:=e;omega,fun i hi=>by unfold Vg at hi;simp at hi,fun e=>by have:op=3:=e;omega⟩
theorem Qkk {i:Int}(h:0<=i/\i < A):Nq A F ⟨9,i,0,0,0,0⟩:=
 ⟨fun _=>h,fun i hi=>by unfold Vg at hi;simp at hi,fun e=>by have:(9:Int)=3:=e;omega⟩
theorem Qsl:∀(r:List Tr) (t:Tr),t.all (Nq A F)->(∀u∈r,u.all (Nq A F))->(Hz t r).all (Nq A F)
 |[],_,ht,_=>ht
 |u :: r,t,ht,hr=>Qsl r _ ⟨Lj (by omega),ht,hr u (List.mem_cons_self ..)⟩ (fun v hv=>hr v (List.mem_cons_of_mem _ hv))
theorem Zj0:∀(l:List Tr),(∀u∈l,u.all (Nq A F))->(Cp l).all (Nq A F)
 |[],_=>Lj (by omega)
 |t :: r,h=>Qsl r t (h t (List.mem_cons_self ..)) (fun v hv=>h v (List.mem_cons_of_mem _ hv))
theorem Qjj:∀(t:Tr),t.all (Nq A F)->(Vi t).all (Nq A F)
 |.leaf _,h=>h
 |.one n a,h=>by
  have ih:=Qjj a h.2;unfold Vi;by_cases xT:n.op=10
  ·rw [if_pos xT];exact⟨Lj (by omega),Qkk (h.1.agent (.inr xT)),Lj (by omega),ih⟩
  rw [if_neg xT];by_cases uL:n.op=11
  ·rw [if_pos uL];refine Zj0 _ fun u hu=> ?_
   obtain⟨i,hi,rfl⟩:=List.mem_map.1 hu;obtain⟨_,h2⟩:=List.mem_filter.1 hi;have:=h.1.group i h2;exact⟨Qkk ⟨by omega,by omega⟩,ih⟩
  rw [if_neg uL];exact⟨h.1,ih⟩
 |.two n a b,h=>⟨h.1,Qjj a h.2.1,Qjj b h.2.2⟩
theorem Zz1 {i:Nat} {n:Nd} {a b:Tr}(h:(Tr.two n a b).all (Nq A F))(hg:Vg n.g i=true):(Gr i n a b).all (Nq A F):=by
 have:=h.1.group i hg;exact⟨Qkk ⟨by omega,by omega⟩,Lj (by omega),h.2.1,Lj (by omega),h.2.2,h⟩
theorem Qo8 {t:Tr}(ht:t.ok)(h:t.all (Nq A F)) {k:Nat}(hk:k < (Qs t).length):(tr (Qs t) k).all (Nq A F):=
 Ei (P:=Nq A F) (fun _ k1 k2 h=>h.with k1 k2) (Qqx ht) (Ly (P:=Nq A F) (fun _ k1 k2 h=>h.with k1 k2) t [] h (fun n hn=>by cases hn)) k hk
theorem Qih {t:Tr}(h:Xf t)(he:(Kw (Qs t)).2=0)(rK:t.all (Nq A F)):∀s∈(Kw (Qs t)).1.map Qh,s.all (Nq A F):=by
 have hB:=Qsm h he;intro s hs;obtain⟨hX,hc⟩:=(Vx hB.can).1 hs;unfold Kw at he hc;cases hb:((Yw (Qs t)).flatMap Kz).any (fun u=>decide (u.length=0))||decide (12 < (((Yw (Qs t)).flatMap Kz).foldl Ga (Yw (Qs t))).length)
 case true=>rw [hb]at he;cases he
 rw [hb,cond_false]at hc;rcases(Qqt _ _ _).1 hc with h1|h1
 ·obtain⟨k,hk,e,_⟩:=h.mem_base0.1 h1;rw [(hX.inj (h.at hk) e)];exact Qo8 h.xp.1.1 rK hk
 obtain⟨c,rN,sO⟩:=List.mem_flatMap.1 h1;obtain⟨k,hk,rfl,_⟩:=h.mem_base0.1 rN;have hx:=h.at hk;have LT:=Qo8 h.xp.1.1 rK hk;by_cases ho:(tr (Qs t) k).top.op=13
 ·obtain⟨n,a,b,e,gK⟩:=Ie hx ho;rw [e]at hx sO LT;obtain⟨i,hi,hg,e2⟩:=(Qzr hx gK).1 sO;have zG:(Qs (Gr i n a b)).length<=200:=by
   by_cases e3:(Qs (Gr i n a b)).length<=200
   ·exact e3
   rw [Gq (by omega)]at e2;have hp:=Ud hX.xp.1.1;rw [e2]at hp;simp at hp
  have hX2:Xf (Gr i n a b):=⟨hx.xp.unf hi,zG⟩;rw [hX.inj hX2 (by rw [e2,Gc zG])];exact Zz1 LT hg
 rw [Ho hx ho]at sO;cases sO
end
theorem Am(m:Nat):m < 2^Ye m:=by
 unfold Ye
 split
 ·rename_i h;rw [h];decide
 exact Nat.lt_log2_self
theorem Qyo {m k:Nat}(h:m < 2^k):Ye m<=k:=by
 unfold Ye
 split
 ·omega
 rename_i h0;have:=(Nat.log2_lt h0).2 h;omega
theorem Qs0 {f:List Nd}(hc:check f=0):(Qh f).all (Nq (Ye (Jl (Qf f))) (Ye (Yy (Qf f)))):=by
 obtain⟨hw,_,hp,hh⟩:=Jb hc;have h:=Ei (P:=Nq (Ye (Jl (Qf f))) (Ye (Yy (Qf f)))) (fun _ k1 k2 h=>h.with k1 k2) hw (fun n hn=> ?_) ((Qf f).length - 1) (by omega)
 ·rw [show tr (Qf f) ((Qf f).length - 1)=Qh f from Xy hc]at h;exact h
 have wU:=hh n hn;have ha:=fun i hi=>Kf (Am (Jl (Qf f))) ((Qk7 (Qf f) 0).2 n hn i hi)
 have hf:=fun i hi=>Kf (Am (Yy (Qf f))) ((Qxg (Qf f) 0).2 n hn i hi)
 refine⟨fun ho=> ?_,fun i hi=>ha i (.inr hi),fun ho=> ?_⟩
 ·have h1:Zb n.op=true:=by rcases ho with h|h <;>(rw [h];rfl)
  have h2:=Xz wU h1;have:=ha n.i.toNat (.inl ⟨h1,rfl⟩);exact⟨h2.1,by omega⟩
 have h2:=By wU ho;have:=hf n.i.toNat ⟨ho,rfl⟩;exact⟨h2.1,by omega⟩
theorem Qp2 {lg:Int} {f:List Nd}(h:Ba lg f)(he:Yj lg f=0):∀s∈(Qp f).1.map Qh,s.all (Nq (Ye (Jl (Qf f))) (Ye (Yy (Qf f)))):=by
 have h4:Qp f=Kw (Qs (Vi (Qh f))):=by
  unfold Yj at he;cases ha:decide (lg < 0)||decide (6 < lg)
  ·rw [ha]at he;rw [<-h.e];exact(Hj he).2.2.2
  rw [ha]at he;cases he
 have h5:(Kw (Qs (Vi (Qh f)))).2=0:=by
  rw [<-h4];unfold Yj at he;cases ha:decide (lg < 0)||decide (6 < lg)
  ·rw [ha]at he;exact he
  rw [ha]at he;cases he
 rw [h4];exact Qih h.x h5 (Qjj _ (Qs0 h.ck))
def Jt(s:Nat)(ws:List Nat):Nat:=Yi ws.length fun i=>s.testBit (ws.getD i 0)
def Vj(md:Md)(ws:List Nat):Md:=⟨(ws.length:Int),md.val.map (fun s=>Jt s ws),md.rel.map fun r=>ws.map fun w=>Jt (r.getD w 0) ws⟩
theorem Qno(s:Nat)(ws:List Nat)(i:Nat):(Jt s ws).testBit i=(decide (i < ws.length)&&s.testBit (ws.getD i 0)):=Rw _ _ _
theorem Qtb(s:Nat)(ws:List Nat):Jt s ws < 2^ws.length:=Nb _ _
theorem Qz3 {md:Md}(h1:1<=md.n)(h2:md.n<=64)(h3:md.rel.length<=4)(h4:md.val.length<=8)(h5:∀r∈md.rel,(r.length:Int)=md.n)
 (h6:∀s∈md.val,s < 2^md.n.toNat)(h7:∀r∈md.rel,∀s∈r,s < 2^md.n.toNat):Qa md=0:=by
 have hb:∀l:List Nat,(∀s∈l,s < 2^md.n.toNat)->Zn l md.n.toNat=false:=fun l hl=>by
  unfold Zn;rw [List.any_eq_false];intro s hs;rw [decide_eq_true (hl s hs)];decide
 unfold Qa;rw [if_neg (by omega),if_neg (by omega),if_neg,if_neg,if_neg]
 ·rw [Bool.not_eq_true,List.any_eq_false];intro r hr;rw [hb r (h7 r hr)];decide
 ·rw [hb _ h6];decide
 rw [Bool.not_eq_true,List.any_eq_false];intro r hr;rw [decide_eq_true (h5 r hr)];decide
theorem Hv {md:Md}(h:Qa md=0):(∀s∈md.val,s < 2^md.n.toNat)/\∀r∈md.rel,∀s∈r,s < 2^md.n.toNat:=by
 obtain⟨_,_,_,_,_,h1,h2⟩:=Zv h;have hb:∀l:List Nat,Zn l md.n.toNat=false->∀s∈l,s < 2^md.n.toNat:=fun l hl s hs=>by
  unfold Zn at hl;rw [List.any_eq_false]at hl;have:=hl s hs;rw [Bool.not_eq_true,Bool.not_eq_false']at this;exact of_decide_eq_true this
 exact⟨hb _ h1,fun r hr=>hb r (h2 r hr)⟩
theorem Qz0 {md:Md} {ws:List Nat}(h:Qa md=0)(h1:1<=ws.length)(h2:ws.length<=64):Qa (Vj md ws)=0:=by
 obtain⟨_,_,h3,h4,_,_,_⟩:=Zv h;refine Qz3 (show(1:Int)<=(ws.length:Int) by omega) (show(ws.length:Int)<=64 by omega) (by simp [Vj];exact h3) (by simp [Vj];exact h4) ?_ ?_ ?_
 ·intro r hr;obtain⟨r0,_,rfl⟩:=List.mem_map.1 hr;rw [List.length_map];rfl
 ·intro s hs;obtain⟨s0,_,rfl⟩:=List.mem_map.1 hs;exact Qtb _ _
 intro r hr s hs;obtain⟨r0,_,rfl⟩:=List.mem_map.1 hr;obtain⟨w,_,rfl⟩:=List.mem_map.1 hs;exact Qtb _ _
theorem Ck {md:Md}(h:Qa md=0):md.ok:=by
 obtain⟨h1,h2,_⟩:=Zv h;obtain⟨h3,h4⟩:=Hv h;have uH:2^md.n.toNat<=18446744073709551616:=Nw (by omega);exact⟨by unfold Vp;omega,fun s hs=>Qy (h3 s hs) uH,fun r hr s hs=>Qy (h4 r hr s hs) uH⟩
def Zjs(md:Md)(ws:List Nat):Prop:=∀a,a < md.rel.length->∀u∈ws,∀v,((md.rel.getD a []).getD u 0).testBit v=true->v∈ws
theorem Qim {md:Md} {ws:List Nat}(_hlt:∀w∈ws,w < md.n.toNat)(yU:Zjs md ws)(hg:∀i:Fin (Vj md ws).n.toNat,ws.getD i.1 0 < md.n.toNat):
 Emb (Gx (Vj md ws)) (Gx md) md.rel.length md.val.length (fun i:Fin (Vj md ws).n.toNat=>(⟨ws.getD i.1 0,hg i⟩:Fin md.n.toNat)) where
 fact:=fun i h0 h1 u=>by
  have hu:u.1 < ws.length:=u.2;show((md.val.map fun s=>Jt s ws).getD i.toNat 0).testBit u.1=true↔(md.val.getD i.toNat 0).testBit (ws.getD u.1 0)=true;rw [Qk,List.getElem?_map,List.getElem?_eq_getElem (show i.toNat < md.val.length by omega),Qk,List.getElem?_eq_getElem (show i.toNat < md.val.length by omega)];show(Jt _ ws).testBit u.1=true↔_;rw [Qno,decide_eq_true hu,Bool.true_and];rfl
 rel:=fun i h0 h1 u v=>by
  obtain⟨a,rfl⟩:=Int.eq_ofNat_of_zero_le h0;have ha:a < md.rel.length:=by omega
  have hu:u.1 < ws.length:=u.2;have hv:v.1 < ws.length:=v.2;refine(kmR (md:=Vj md ws) (show a < (Vj md ws).rel.length by simp [Vj];exact ha) u v).trans (Iff.trans ?_ (kmR ha (⟨ws.getD u.1 0,hg u⟩:Fin md.n.toNat) (⟨ws.getD v.1 0,hg v⟩:Fin md.n.toNat)).symm);show((((md.rel.map fun r=>ws.map fun w=>Jt (r.getD w 0) ws).getD a []).getD u.1 0).testBit v.1=true)↔((md.rel.getD a []).getD (ws.getD u.1 0) 0).testBit (ws.getD v.1 0)=true;have e1:(md.rel.map fun r=>ws.map fun w=>Jt (r.getD w 0) ws).getD a []=ws.map fun w=>Jt ((md.rel.getD a []).getD w 0) ws:=by
   rw [Qk,List.getElem?_map,Qv ha,Qk,Qv ha];rfl
  have e2:(ws.map fun w=>Jt ((md.rel.getD a []).getD w 0) ws).getD u.1 0=Jt ((md.rel.getD a []).getD (ws.getD u.1 0) 0) ws:=by
   rw [Qk,List.getElem?_map,Qv hu,Qk (l:=ws),Qv hu];rfl
  rw [e1,e2,Qno,decide_eq_true hv,Bool.true_and]
 cl:=fun i h0 h1 u y hy=>by
  obtain⟨a,rfl⟩:=Int.eq_ofNat_of_zero_le h0;have ha:a < md.rel.length:=by omega
  have hu:u.1 < ws.length:=u.2;have hm:y.1∈ws:=yU a ha (ws.getD u.1 0) (by rw [Qk,Qv hu];exact List.getElem_mem _) y.1 ((kmR ha _ _).1 hy);obtain⟨j,hj,e⟩:=List.getElem_of_mem hm;refine⟨⟨j,hj⟩,Fin.ext ?_⟩;show ws.getD j 0=y.1;rw [Qk,Qv hj];exact e
theorem Qsh {md:Md} {f:List Nd}(h:Jz md f=0):(Qh f).all (Qaw md.rel.length md.val.length):=by
 obtain⟨zU,hc,hs,hf⟩:=Vm h;have h2:=Ul hc;have wN:=Gv hc;have xN:Jr (Jp (Qf f)) 15=true:=by unfold Jp at hs⊢;rw [h2];exact hs
 have qW:Yl (Qf f) md.rel.length md.val.length=true:=by
  unfold Yl at hf⊢;rw [h2,wN];rw [hc]at hf;exact hf
 rw [<-Xy hc];refine Ei (P:=Qaw md.rel.length md.val.length) (fun n k1 k2 h=>h) (Yt wN) (fun n hn=> ?_) _ (by have:=(Jf wN).1;omega);obtain⟨k,hk⟩:=List.mem_iff_getElem?.1 hn;have wR:=(List.getElem?_eq_some_iff.1 hk).1;have hr:=(Zv zU).2.2.1;have hN:=Qxn wN hk (Qv7 wN h2 xN qW wR) hr;refine⟨fun h3=>⟨(By hN.head h3).1,hN.fact h3⟩,fun h9=>⟨(Xz hN.head (by unfold Zb;rcases h9 with e|e <;> rw [e] <;> rfl)).1,hN.agent h9⟩,fun uL=> ?_⟩;have hg:=hN.group (by omega);refine⟨fun j hj=>Kf hg.2 hj,?_⟩;obtain⟨j,hj⟩:=Nat.exists_testBit_of_ne_zero (show n.g.toNat≠0 by omega)
 have:=Kf hg.2 hj;exact⟨j,by omega,hj⟩
theorem Qa9 {md md':Md} {f:List Nd}(h:Jz md f=0)(hc:Qa md'=0)(hr:md'.rel.length=md.rel.length)(hv:md'.val.length=md.val.length):Jz md' f=0:=by
 obtain⟨_,h1,h2,h3⟩:=Vm h;unfold Jz;rw [if_neg (by rw [hc];simp),if_neg (by rw [h1];simp),if_neg (by rw [h2];simp),hr,hv,if_neg (by rw [h3];simp)]
structure Uj (lg:Int) (f:List Nd) (md:Md) (k:Nat):Prop where
 ck:Jz md f=0
 lt:k < md.n.toNat
 good:Fw md lg
 sat:∀w:Fin md.n.toNat,w.1=k->(Gx md).sat (Qh f) w
noncomputable def Xm (lg:Int) (f:List Nd) (md:Md) (wd:Int):Int :=
 if lg < 0\/6 < lg then 1 else if Jz md f≠0 then Jz md f else if wd < 0\/md.n<=wd then 2 else if Ib md lg=false then 12 else if(Nc md f).testBit wd.toNat=true then 0 else 11
theorem Id {md:Md} {lg:Int} :Ib md lg=true↔Fw md lg:=by
 refine⟨fun h=>(Qwj h).2,fun h=> ?_⟩;unfold Ib Qyh;rw [decide_eq_true h.ck,decide_eq_true h.lgr,Qnj.2 h.rel];rfl
theorem Fc {lg:Int} {f:List Nd} {md:Md} {wd:Int} :Xm lg f md wd=0↔∃k:Nat,wd=(k:Int)/\Uj lg f md k:=by
 unfold Xm;constructor
 ·intro h;by_cases h1:lg < 0\/6 < lg
  ·rw [if_pos h1]at h;cases h
  rw [if_neg h1]at h;by_cases h2:Jz md f≠0
  ·rw [if_pos h2]at h;exact absurd h h2
  rw [if_neg h2]at h;by_cases h3:wd < 0\/md.n<=wd
  ·rw [if_pos h3]at h;cases h
  rw [if_neg h3]at h;by_cases h4:Ib md lg=false
  ·rw [if_pos h4]at h;cases h
  rw [if_neg h4]at h;by_cases h5:(Nc md f).testBit wd.toNat=true
  ·have R6:Jz md f=0:=Decidable.not_not.1 h2;refine⟨wd.toNat,by omega,R6,by omega,Id.1 (by rw [Bool.not_eq_false]at h4;exact h4),fun w hw=> ?_⟩;exact(We R6 w).1 (by rw [hw];exact h5)
  rw [if_neg h5]at h;cases h
 rintro⟨k,rfl,h⟩;have:=h.lt;have h2:=h.good.lgr;rw [if_neg (by omega),if_neg (by rw [h.ck];simp),if_neg (by omega),if_neg (by rw [Id.2 h.good];simp),if_pos];exact(We h.ck ⟨k,h.lt⟩).2 (h.sat _ rfl)
theorem Uj.part {lg:Int} {f:List Nd} {md:Md} {k:Nat}(h:Uj lg f md k) {ws:List Nat}(zJ:∀w∈ws,w < md.n.toNat)(yU:Zjs md ws)(uH:ws.length<=64) {j:Nat}(hj:ws[j]?=some k):Uj lg f (Vj md ws) j:=by
 obtain⟨lE,hje⟩:=List.getElem?_eq_some_iff.1 hj;have hg:∀i:Fin (Vj md ws).n.toNat,ws.getD i.1 0 < md.n.toNat:=fun i=>by
  have hi:i.1 < ws.length:=i.2;refine zJ _ ?_;rw [Qk,Qv hi];exact List.getElem_mem _
 have hE:=Qim zJ yU hg;have zU:=Qz0 h.good.ck (by omega) uH;refine⟨Qa9 h.ck zU (by simp [Vj]) (by simp [Vj]),lE,?_,fun w hw=> ?_⟩
 ·refine(Qqh zU h.good.lgr).2 fun a ha=> ?_
  rw [show(Vj md ws).rel.length=md.rel.length by simp [Vj]]at ha;exact hE.frm (by omega) (by omega) ((Qqh h.good.ck h.good.lgr).1 h.good a ha)
 refine(hE.sat _ (Qsh h.ck) w).2 (h.sat _ ?_);show ws.getD w.1 0=k;rw [hw,Qk,hj];rfl
theorem Ph {a m b c:Nat}(ha:a < 256)(hm:m < 256):(a+256*b)&&&(m+256*c)=(a&&&m)+256*(b&&&c):=by
 have hs:∀{p q:Nat} (_:p < 256) (i:Nat),(p+256*q).testBit i=if i < 8 then p.testBit i else q.testBit (i - 8):=fun {p q} hp i=>by
  rw [Nat.add_comm,show(256:Nat)=2^8 from rfl,Nat.testBit_two_pow_mul_add _ hp]
 have hl:a&&&m < 256:=Nat.lt_of_le_of_lt Nat.and_le_left ha;refine Nat.eq_of_testBit_eq fun i=> ?_
 rw [Nat.testBit_and,hs ha,hs hm,hs hl];by_cases h:i < 8
 ·rw [if_pos h,if_pos h,if_pos h,Nat.testBit_and]
 rw [if_neg h,if_neg h,if_neg h,Nat.testBit_and]
def Si(m:Nat):Nat->Nat
 |0=>0
 |k+1=>m+256*Si m k
def st1(M x:Nat):Nat:=(x / 2&&&M)+(x&&&M)
def st2(M x:Nat):Nat:=(x / 4&&&M)+(x&&&M)
def st3(M x:Nat):Nat:=x / 16+x&&&M
def pc1(d:Nat):Nat:=(d / 2&&&85)+(d&&&85)
def pc2(d:Nat):Nat:=(d / 4&&&51)+(d&&&51)
def pc3(d:Nat):Nat:=d / 16+d&&&15
def Oz(d:Nat):Nat:=pc3 (pc2 (pc1 d))
theorem Zvp:∀d:Fin 256,∀c:Fin 2,(d.1 / 2+128*c.1)&&&85=(d.1 / 2&&&85):=by decide+kernel
theorem Zvc:∀d:Fin 256,∀c:Fin 4,(d.1 / 4+64*c.1)&&&51=(d.1 / 4&&&51):=by decide+kernel
theorem Qt9:∀d:Fin 256,pc1 d.1 < 256/\pc2 (pc1 d.1) % 16<=4/\pc2 (pc1 d.1)<=68/\Oz d.1<=8/\Oz d.1=(List.range 8).countP fun i=>d.1.testBit i:=by decide+kernel
theorem Zvh:∀d:Fin 69,∀c:Fin 5,(d.1 / 16+16*c.1+d.1)&&&15=pc3 d.1:=by decide+kernel
theorem Qag {d y M:Nat}(hd:d < 256):st1 (85+256*M) (d+256*y)=pc1 d+256*st1 M y:=by
 unfold st1 pc1;have e:(d+256*y) / 2=(d / 2+128*(y % 2))+256*(y / 2):=by omega
 have h1:=Zvp ⟨d,hd⟩ ⟨y % 2,Nat.mod_lt _ (by decide)⟩;rw [e,Ph (by omega) (by decide),Ph hd (by decide),show(d / 2+128*(y % 2))&&&85=_ from h1,Nat.mul_add];exact Nat.add_add_add_comm _ _ _ _
theorem Qaf {d y M:Nat}(hd:d < 256):st2 (51+256*M) (d+256*y)=pc2 d+256*st2 M y:=by
 unfold st2 pc2;have e:(d+256*y) / 4=(d / 4+64*(y % 4))+256*(y / 4):=by omega
 have h1:=Zvc ⟨d,hd⟩ ⟨y % 4,Nat.mod_lt _ (by decide)⟩;rw [e,Ph (by omega) (by decide),Ph hd (by decide),show(d / 4+64*(y % 4))&&&51=_ from h1,Nat.mul_add];exact Nat.add_add_add_comm _ _ _ _
theorem Qab {d y M:Nat}(hd:d<=68)(hy:y % 16<=4):st3 (15+256*M) (d+256*y)=pc3 d+256*st3 M y:=by
 unfold st3;have e:(d+256*y) / 16+(d+256*y)=(d / 16+16*(y % 16)+d)+256*(y / 16+y):=by omega
 have h1:=Zvh ⟨d,by omega⟩ ⟨y % 16,by omega⟩;rw [e,Ph (by omega) (by decide),show(d / 16+16*(y % 16)+d)&&&15=_ from h1]
def Qm0:Nat->Nat->Nat
 |0,_=>0
 |k+1,x=>Oz (x % 256)+256*Qm0 k (x / 256)
theorem Ys:∀(k x:Nat),x < 256^k->st2 (Si 51 k) (st1 (Si 85 k) x) % 16<=4/\st3 (Si 15 k) (st2 (Si 51 k) (st1 (Si 85 k) x))=Qm0 k x
 |0,x,h=>by
  have:x=0:=by simpa using h
  subst this;decide
 |k+1,x,h=>by
  have hd:x % 256 < 256:=Nat.mod_lt _ (by decide);have hx:x / 256 < 256^k:=by rw [Nat.div_lt_iff_lt_mul (by decide),<-Nat.pow_succ];exact h
  obtain⟨ih1,ih2⟩:=Ys k (x / 256) hx;obtain⟨b1,b2,b3,_,_⟩:=Qt9 ⟨x % 256,hd⟩;have e:x=x % 256+256*(x / 256):=by omega
  have e1:st1 (Si 85 (k+1)) x=pc1 (x % 256)+256*st1 (Si 85 k) (x / 256):=by
   conv=>lhs;rw [e]
   exact Qag hd
  have e2:st2 (Si 51 (k+1)) (st1 (Si 85 (k+1)) x)=pc2 (pc1 (x % 256))+256*st2 (Si 51 k) (st1 (Si 85 k) (x / 256)):=by
   rw [e1];exact Qaf b1
  rw [e2];refine⟨by show(pc2 (pc1 (x % 256))+_) % 16<=4;have b2':pc2 (pc1 (x % 256)) % 16<=4:=b2;omega,?_⟩;show st3 (15+256*Si 15 k) _=pc3 (pc2 (pc1 (x % 256)))+256*Qm0 k (x / 256);rw [Qab b3 ih1,ih2]
def Xc(s k:Nat):Nat:=(List.range k).countP fun i=>s.testBit i
theorem Rf(k x:Nat):Xc x (8*(k+1))=Oz (x % 256)+Xc (x / 256) (8*k):=by
 obtain⟨_,_,_,_,b5⟩:=Qt9 ⟨x % 256,Nat.mod_lt _ (by decide)⟩;have b5':Oz (x % 256)=(List.range 8).countP fun i=>(x % 256).testBit i:=b5
 unfold Xc;rw [b5',show 8*(k+1)=8+8*k by omega,List.range_add,List.countP_append,List.countP_map]
 congr 1
 ·refine List.countP_congr fun i hi=> ?_
  have N2:=List.mem_range.1 hi;rw [show(256:Nat)=2^8 from rfl,Nat.testBit_mod_two_pow,decide_eq_true N2,Bool.true_and]
 refine List.countP_congr fun i _=> ?_
 show x.testBit (8+i)=true↔(x / 256).testBit i=true;rw [show(256:Nat)=2^8 from rfl,Nat.testBit_div_two_pow,Nat.add_comm]
theorem Cg(d:Nat):Oz (d % 256)<=8:=(Qt9 ⟨d % 256,Nat.mod_lt _ (by decide)⟩).2.2.2.1
def st4(x:Nat):Nat:=x+x / 256
def st5(x:Nat):Nat:=x+x / 65536
def st6(x:Nat):Nat:=x+x / 4294967296
theorem Zkp {p r:Nat}(hp:p < 256):(p+256*r) / 256=r:=by omega
theorem Zkc {p q r:Nat}(hp:p < 256)(hq:q < 256):(p+256*(q+256*r)) / 65536=r:=by omega
theorem Zkh {p q s t r:Nat}(hp:p < 256)(hq:q < 256)(hs:s < 256)(ht:t < 256):(p+256*(q+256*(s+256*(t+256*r)))) / 4294967296=r:=by omega
theorem Zka {p q r s:Nat}(hp:p+q < 128):(p+256*r+(q+256*s)) % 128=p+q:=by omega
theorem Zk0 {a b c d e f g h:Nat}(ha:a<=8)(hb:b<=8)(hc:c<=8)(hd:d<=8)(he:e<=8)(hf:f<=8)(hg:g<=8)(hh:h<=8):
 st6 (st5 (st4 (a+256*(b+256*(c+256*(d+256*(e+256*(f+256*(g+256*h))))))))) % 128=a+b+c+d+e+f+g+h:=by
 have e4:st4 (a+256*(b+256*(c+256*(d+256*(e+256*(f+256*(g+256*h)))))))=
  (a+b)+256*((b+c)+256*((c+d)+256*((d+e)+256*((e+f)+256*((f+g)+256*((g+h)+256*h)))))):=by
  unfold st4;rw [Zkp (by omega)];omega
 have e5:st5 ((a+b)+256*((b+c)+256*((c+d)+256*((d+e)+256*((e+f)+256*((f+g)+256*((g+h)+256*h)))))))=
  (a+b+(c+d))+256*((b+c+(d+e))+256*((c+d+(e+f))+256*((d+e+(f+g))+256*((e+f+(g+h))+256*((f+g+h)+256*((g+h)+256*h)))))):=by
  unfold st5;rw [Zkc (by omega) (by omega)];omega
 rw [e4,e5];unfold st6;rw [Zkh (by omega) (by omega) (by omega) (by omega),Zka (by omega)];omega
theorem Zq8 {x:Nat}(hx:x < 18446744073709551616):
 st6 (st5 (st4 (st3 (Si 15 8) (st2 (Si 51 8) (st1 (Si 85 8) x))))) % 128=Xc x 64:=by
 have h8:x < 256^8:=hx;rw [(Ys 8 x h8).2];have e:=(Zk0 (Cg x) (Cg (x / 256)) (Cg (x / 256 / 256)) (Cg (x / 256 / 256 / 256)) (Cg (x / 256 / 256 / 256 / 256)) (Cg (x / 256 / 256 / 256 / 256 / 256)) (Cg (x / 256 / 256 / 256 / 256 / 256 / 256)) (Cg (x / 256 / 256 / 256 / 256 / 256 / 256 / 256)));have hs:Qm0 8 x=Oz (x % 256)+256*(Oz (x / 256 % 256)+256*(Oz (x / 256 / 256 % 256)+256*(Oz (x / 256 / 256 / 256 % 256)+256*(Oz (x / 256 / 256 / 256 / 256 % 256)+256*(Oz (x / 256 / 256 / 256 / 256 / 256 % 256)+256*(Oz (x / 256 / 256 / 256 / 256 / 256 / 256 % 256)+256*Oz (x / 256 / 256 / 256 / 256 / 256 / 256 / 256 % 256))))))):=rfl
 rw [hs,e];have c0:∀y:Nat,Xc y (8*0)=0:=fun y=>rfl
 rw [show(64:Nat)=8*8 from rfl,Rf 7,Rf 6,Rf 5,Rf 4,Rf 3,Rf 2,Rf 1,Rf 0,c0];omega
theorem Qdp(s k:Nat):Xc s (k+1)=Xc s k+if s.testBit k=true then 1 else 0:=by
 unfold Xc;rw [List.range_succ,List.countP_append,List.countP_singleton]
theorem Qd0 {p:Nat->Bool} :∀(n k:Nat),k < n->p k=true->((List.range n).filter p)[(List.range k).countP p]?=some k:=by
 intro n k hk hp;have e:List.range n=List.range k++k :: List.range' (k+1) (n - k - 1):=by
  have h1:List.range n=List.range' 0 k++List.range' k (n - k):=by
   rw [List.range_eq_range'];have:=List.range'_append (s:=0) (m:=k) (n:=n - k) (step:=1);rw [Nat.zero_add,Nat.one_mul,show k+(n - k)=n by omega]at this;exact this.symm
  rw [h1,<-List.range_eq_range',show n - k=(n - k - 1)+1 by omega,List.range'_succ];rfl
 rw [e,List.filter_append,List.countP_eq_length_filter,List.getElem?_append_right (Nat.le_refl _),Nat.sub_self,List.filter_cons,if_pos hp];rfl
theorem Qji {s w:Nat}(hw:w < 64)(hs:s.testBit w=true):(Za s)[Xc s w]?=some w:=Qd0 64 w hw hs
theorem Qi4 {s w:Nat}(hw:w<=64):Xc (s&&&(2^w - 1)) 64=Xc s w:=by
 unfold Xc;rw [show(64:Nat)=w+(64 - w) by omega,List.range_add,List.countP_append,List.countP_map];have h2:List.countP ((fun i=>(s&&&(2^w - 1)).testBit i) ∘ fun x=>w+x) (List.range (64 - w))=0:=by
  rw [List.countP_eq_zero];intro i _;show ¬(s&&&(2^w - 1)).testBit (w+i)=true;rw [Nat.testBit_and,Nat.testBit_two_pow_sub_one,decide_eq_false (by omega),Bool.and_false];simp
 rw [h2,Nat.add_zero];refine List.countP_congr fun i hi=> ?_
 rw [Nat.testBit_and,Nat.testBit_two_pow_sub_one,decide_eq_true (List.mem_range.1 hi),Bool.and_true]
structure Ni (md:Md) (fr out:Nat):Prop where
 sub:∀i,fr.testBit i=true->out.testBit i=true
 cl:∀a,a < md.rel.length->∀u,out.testBit u=true->∀v,((md.rel.getD a []).getD u 0).testBit v=true->out.testBit v=true
 least:∀c:Nat->Prop,(∀i,fr.testBit i=true->c i)->(∀a,a < md.rel.length->∀u,c u->∀v,((md.rel.getD a []).getD u 0).testBit v=true->c v)->∀i,out.testBit i=true->c i
theorem Ni.uniq {md:Md} {fr o1 o2:Nat}(h1:Ni md fr o1)(h2:Ni md fr o2):o1=o2:=by
 refine Nat.eq_of_testBit_eq fun i=> ?_
 have a:=h1.least (fun i=>o2.testBit i=true) h2.sub h2.cl i;have b:=h2.least (fun i=>o1.testBit i=true) h1.sub h1.cl i;cases e1:o1.testBit i <;> cases e2:o2.testBit i
 ·rfl
 ·rw [b e2]at e1;cases e1
 ·rw [a e1]at e2;cases e2
 rfl
structure Cn (md:Md) (fr todo out:Nat):Prop where
 sub:∀i,fr.testBit i=true->out.testBit i=true
 tod:∀i,todo.testBit i=true->out.testBit i=true
 cl:∀a,a < md.rel.length->∀u,out.testBit u=true->todo.testBit u=false->∀v,((md.rel.getD a []).getD u 0).testBit v=true->out.testBit v=true
 least:∀c:Nat->Prop,(∀i,fr.testBit i=true->c i)->(∀a,a < md.rel.length->∀u,c u->∀v,((md.rel.getD a []).getD u 0).testBit v=true->c v)->∀i,out.testBit i=true->c i
theorem Cn.start(md:Md)(fr:Nat):Cn md fr fr fr:=⟨fun _ h=>h,fun _ h=>h,fun _ _ u h1 h2=>(by rw [h1]at h2;cases h2),fun _ h _=>h⟩
theorem Cn.done {md:Md} {fr out:Nat}(h:Cn md fr 0 out):Ni md fr out:=⟨h.sub,fun a ha u hu=>h.cl a ha u hu (Nat.zero_testBit u),h.least⟩
structure Qvc (md:Md) (fr w k todo out:Nat):Prop where
 sub:∀i,fr.testBit i=true->out.testBit i=true
 tod:∀i,todo.testBit i=true->out.testBit i=true
 here:out.testBit w=true
 cl:∀a,a < md.rel.length->∀u,u≠w->out.testBit u=true->todo.testBit u=false->∀v,((md.rel.getD a []).getD u 0).testBit v=true->out.testBit v=true
 seen:∀a,a < k->∀v,((md.rel.getD a []).getD w 0).testBit v=true->out.testBit v=true
 least:∀c:Nat->Prop,(∀i,fr.testBit i=true->c i)->(∀a,a < md.rel.length->∀u,c u->∀v,((md.rel.getD a []).getD u 0).testBit v=true->c v)->∀i,out.testBit i=true->c i
theorem Cn.enter {md:Md} {fr todo out:Nat}(h:Cn md fr todo out)(hw:Qm todo)(h0:todo≠0):Qvc md fr (Dt todo) 0 (todo&&&(todo - 1)) out:=by
 obtain⟨_,h1,h2⟩:=Eb hw h0;have hb:=Rv h1 h2;refine⟨h.sub,fun i hi=>h.tod i ?_,h.tod _ h1,fun a ha u hu KP aU=>h.cl a ha u KP ?_,fun a ha=>absurd ha (by omega),h.least⟩
 ·rw [hb i,Bool.and_eq_true]at hi;exact hi.1
 rw [hb u,decide_eq_false hu]at aU;simpa using aU
theorem Qvc.step {md:Md} {fr w k todo out:Nat}(h:Qvc md fr w k todo out)(hk:k < md.rel.length):
 Qvc md fr w (k+1) (todo|||Zl ((md.rel.getD k []).getD w 0) out) (out|||(md.rel.getD k []).getD w 0):=by
 refine⟨fun i hi=> ?_,fun i hi=> ?_,?_,fun a ha u hu KP aU v hv=> ?_,fun a ha v hv=> ?_,fun c h1 h2 i hi=> ?_⟩
 ·rw [Nat.testBit_or,h.sub i hi,Bool.true_or]
 ·rw [Nat.testBit_or,Bool.or_eq_true,Gl,Bool.and_eq_true]at hi;rw [Nat.testBit_or,Bool.or_eq_true];rcases hi with hi|hi
  ·exact Or.inl (h.tod i hi)
  exact Or.inr hi.1
 ·rw [Nat.testBit_or,h.here,Bool.true_or]
 ·rw [Nat.testBit_or,Bool.or_eq_false_iff,Gl]at aU;rw [Nat.testBit_or,Bool.or_eq_true]at KP;rw [Nat.testBit_or,Bool.or_eq_true];refine Or.inl ?_;cases ho:out.testBit u
  ·rw [ho]at KP aU;have h3:=KP.resolve_left (by simp);rw [h3]at aU;simp at aU
  exact h.cl a ha u hu ho aU.1 v hv
 ·rw [Nat.testBit_or,Bool.or_eq_true];by_cases e:a=k
  ·rw [<-e];exact Or.inr hv
  exact Or.inl (h.seen a (by omega) v hv)
 rw [Nat.testBit_or,Bool.or_eq_true]at hi;rcases hi with hi|hi
 ·exact h.least c h1 h2 i hi
 exact h2 k hk w (h.least c h1 h2 w h.here) i hi
theorem Qvc.leave {md:Md} {fr w todo out:Nat}(h:Qvc md fr w md.rel.length todo out):Cn md fr todo out:=by
 refine⟨h.sub,h.tod,fun a ha u hu aU v hv=> ?_,h.least⟩;by_cases e:u=w
 ·rw [e]at hv;exact h.seen a ha v hv
 exact h.cl a ha u e hu aU v hv
def Qqp(todo out:Nat):Nat:=((List.range 64).map fun i=>if out.testBit i=true then(if todo.testBit i=true then 1 else 0)else 2).sum
theorem Qj6 {f g:Nat->Nat} :∀(l:List Nat),(∀i∈l,f i<=g i)->(l.map f).sum<=(l.map g).sum
 |[],_=>Nat.le_refl _
 |a :: l,h=>by
  have h1:=Qj6 l (fun i hi=>h i (List.mem_cons_of_mem _ hi));have h2:=h a (List.mem_cons_self ..);simp only [List.map_cons,List.sum_cons];omega
theorem Qn9 {f g:Nat->Nat} :∀(l:List Nat),(∀i∈l,f i<=g i)->(∃i∈l,f i < g i)->(l.map f).sum < (l.map g).sum
 |[],_,⟨i,hi,_⟩=>by cases hi
 |a :: l,h,⟨i,hi,zJ⟩=>by
  have h1:=Qj6 l (fun i hi=>h i (List.mem_cons_of_mem _ hi));have h2:=h a (List.mem_cons_self ..);simp only [List.map_cons,List.sum_cons];rcases List.mem_cons.1 hi with rfl|hi
  ·omega
  have h3:=Qn9 l (fun i hi=>h i (List.mem_cons_of_mem _ hi)) ⟨i,hi,zJ⟩;omega
theorem Qcf {todo out:Nat}(hw:Qm todo)(h0:todo≠0)(hs:∀i,todo.testBit i=true->out.testBit i=true):Qqp (todo&&&(todo - 1)) out < Qqp todo out:=by
 obtain⟨uH,h1,h2⟩:=Eb hw h0;have hb:=Rv h1 h2;refine Qn9 _ (fun i _=> ?_) ⟨Dt todo,List.mem_range.2 uH,?_⟩
 ·rw [hb i];cases out.testBit i <;> cases todo.testBit i <;> cases decide (i=Dt todo) <;> simp
 rw [hb,h1,hs _ h1];simp
theorem Qeo {todo out r:Nat} :Qqp (todo|||Zl r out) (out|||r)<=Qqp todo out:=by
 refine Qj6 _ fun i _=> ?_
 rw [Nat.testBit_or,Nat.testBit_or,Gl];cases out.testBit i <;> cases todo.testBit i <;> cases r.testBit i <;> simp
def Vo(md:Md)(w:Nat):Md:=Vj md (Za (Zl (Zk md.n.toNat) (2^w)))
def Va(k w:Nat):Nat:=if w < k then k - 1 else k
theorem Rs(n w i:Nat):(Zl (Zk n) (2^w)).testBit i=(decide (i < n)&& !decide (w=i)):=by
 rw [Gl,Vz,Nat.testBit_two_pow]
theorem Qv3(n w:Nat):∀k,k<=n->Xc (Zl (Zk n) (2^w)) k=if w < k then k - 1 else k
 |0,_=>by simp [Xc]
 |k+1,h=>by
  rw [Qdp,Qv3 n w k (by omega),Rs,decide_eq_true (show k < n by omega),Bool.true_and];by_cases e:w=k
  ·rw [decide_eq_true e,if_neg (by omega),if_neg (by simp),if_pos (by omega)];omega
  rw [decide_eq_false e,if_pos (show(!false)=true from rfl)];by_cases h2:w < k
  ·rw [if_pos h2,if_pos (by omega)];omega
  rw [if_neg h2,if_neg (by omega)]
theorem Qlr {n w k:Nat}(hn:n<=64)(hk:k < n)(qR:w≠k):(Za (Zl (Zk n) (2^w)))[Va k w]?=some k:=by
 have h:=Qji (s:=Zl (Zk n) (2^w)) (w:=k) (by omega) (by rw [Rs,decide_eq_true hk,decide_eq_false qR];rfl);rw [Qv3 n w k (by omega)]at h;exact h
theorem Qgo(s:Nat):(Za s).length=Xc s 64:=by
 unfold Za Xc;rw [List.countP_eq_length_filter]
theorem Qv0 {s n:Nat}(hs:s < 2^n):∀k,n<=k->Xc s k=Xc s n
 |0,h=>by rw [show n=0 by omega]
 |k+1,h=>by
  by_cases e:n=k+1
  ·rw [e]
  have hb:s.testBit k=false:=Nat.testBit_lt_two_pow (Qy hs (Nat.pow_le_pow_right (by decide) (by omega)));rw [Qdp,Qv0 hs k (by omega),hb,if_neg (by simp),Nat.add_zero]
theorem Qef(n w:Nat):Zl (Zk n) (2^w) < 2^n:=Nat.lt_pow_two_of_testBit _ fun i hi=>by
 rw [Rs,decide_eq_false (by omega),Bool.false_and]
theorem Ed {n w:Nat}(hn:n<=64)(hw:w < n):(Za (Zl (Zk n) (2^w))).length=n - 1:=by
 rw [Qgo,Qv0 (Qef n w) 64 hn,Qv3 n w n (Nat.le_refl _),if_pos hw]
inductive Rj (lg:Int) (f:List Nd):Md->Nat->Md->Nat->Prop
 |done {md:Md} {k:Nat} :(∀w,w < md.n.toNat->w≠k->Xm lg f (Vo md w) (Va k w:Nat)≠0)->Rj lg f md k md k
 |step {md md':Md} {k k' w:Nat} :w < md.n.toNat->w≠k->Xm lg f (Vo md w) (Va k w:Nat)=0->
  (∀u,w < u->u < md.n.toNat->u≠k->Xm lg f (Vo md u) (Va k u:Nat)≠0)->Rj lg f (Vo md w) (Va k w) md' k'->Rj lg f md k md' k'
theorem Rj.uniq {lg:Int} {f:List Nd} {md a b:Md} {k i j:Nat}(h1:Rj lg f md k a i)(h2:Rj lg f md k b j):a=b/\i=j:=by
 induction h1 with
 |done hd =>
  cases h2 with
  |done _=>exact⟨rfl,rfl⟩
  |step hw hk hc _ _=>exact absurd hc (hd _ hw hk)
 |@step md md' k k' w hw hk hc hn _ ih =>
  cases h2 with
  |done hd=>exact absurd hc (hd _ hw hk)
  |@step _ _ _ _ u mN wV tB YR h3 =>
   have e:w=u:=by
    rcases Nat.lt_trichotomy w u with h|h|h
    ·exact absurd tB (hn u h mN wV)
    ·exact h
    exact absurd hc (YR w h hw hk)
   subst e;exact ih h3
theorem Rj.ok {lg:Int} {f:List Nd} {md md':Md} {k k':Nat}(h:Rj lg f md k md' k')(hc:Uj lg f md k):
 Uj lg f md' k'/\md'.n<=md.n/\(∀w,w < md'.n.toNat->w≠k'->Xm lg f (Vo md' w) (Va k' w:Nat)≠0)/\(md'.n=md.n->md'=md/\k'=k):=by
 induction h with
 |done hd=>exact⟨hc,Int.le_refl _,hd,fun _=>⟨rfl,rfl⟩⟩
 |@step md md' k k' w hw hk hz hn _ ih =>
  obtain⟨j,hj,zP⟩:=Fc.1 hz;have ej:j=Va k w:=by omega
  rw [ej]at zP;obtain⟨h1,h2,h3,_⟩:=ih zP;have yZ:=(Zv hc.good.ck).2.1;have hl:(Vo md w).n=((md.n.toNat - 1:Nat):Int):=by
   show((Za (Zl (Zk md.n.toNat) (2^w))).length:Int)=_;rw [Ed (by omega) hw]
  rw [hl]at h2;exact⟨h1,by omega,h3,fun e=>by omega⟩
theorem Ni.part {lg:Int} {f:List Nd} {md:Md} {k out:Nat}(hg:Ni md (2^k) out)(hc:Uj lg f md k):Uj lg f (Vj md (Za out)) (Xc out k)/\(Za out).length<=md.n.toNat/\out < 2^md.n.toNat:=by
 have yZ:=(Zv hc.good.ck).2.1;have wQ:∀i,out.testBit i=true->i < md.n.toNat:=fun i hi=>by
  refine hg.least (fun i=>i < md.n.toNat) (fun i hi=> ?_) (fun a _ u _ v hv=>(Da hc.good.ck a u v hv).2) i hi;rw [Nat.testBit_two_pow,decide_eq_true_iff]at hi;have:=hc.lt;omega
 have ho:out < 2^md.n.toNat:=Nat.lt_pow_two_of_testBit _ fun i hi=>by
  cases hb:out.testBit i
  ·rfl
  exact absurd (wQ i hb) (by omega)
 have zJ:∀w∈Za out,w < md.n.toNat:=fun w hw=>wQ w (Ff.1 hw).2
 have hk:=hc.lt;have iN:(Za out).length<=md.n.toNat:=by
  rw [Qgo,Qv0 ho 64 (by omega)];unfold Xc;exact Qx (List.countP_le_length) (by rw [List.length_range];exact Nat.le_refl _)
 refine⟨hc.part zJ (fun a ha u hu v hv=> ?_) (by omega) (Qji (by omega) (hg.sub k (by rw [Nat.testBit_two_pow];simp))),iN,ho⟩;have:=hg.cl a ha u (Ff.1 hu).2 v hv;have h2:=wQ v this;exact Ff.2 ⟨by omega,this⟩
def Yd(n a v:Nat):Nat:=n*v+n*n*a
def Gf(n k j:Nat):Nat:=k / 2^(n*j) % 2^n
def Bl(n a v k:Nat):Md:=⟨(n:Int),(List.range v).map fun j=>Gf n k j,(List.range a).map fun i=>(List.range n).map fun u=>Gf n k (v+(n*i+u))⟩
theorem Qpe(n k j:Nat):Gf n k j < 2^n:=Nat.mod_lt _ (Nat.two_pow_pos n)
theorem Zqq(n k j b:Nat):(Gf n k j).testBit b=(decide (b < n)&&k.testBit (n*j+b)):=by
 unfold Gf;rw [Nat.testBit_mod_two_pow,Nat.testBit_div_two_pow,Nat.add_comm]
theorem Qhn {n a v k:Nat}(h1:1<=n)(h2:n<=64)(h3:a<=4)(h4:v<=8):Qa (Bl n a v k)=0:=by
 refine Qz3 (show(1:Int)<=(n:Int) by omega) (show(n:Int)<=64 by omega) (by simp [Bl];exact h3) (by simp [Bl];exact h4) ?_ ?_ ?_
 ·intro r hr;obtain⟨i,_,rfl⟩:=List.mem_map.1 hr;rw [List.length_map,List.length_range];rfl
 ·intro s hs;obtain⟨j,_,rfl⟩:=List.mem_map.1 hs;exact Qpe _ _ _
 intro r hr s hs;obtain⟨i,_,rfl⟩:=List.mem_map.1 hr;obtain⟨u,_,rfl⟩:=List.mem_map.1 hs;exact Qpe _ _ _
def Wv(md:Md)(n v j:Nat):Nat:=if j < v then md.val.getD j 0 else(md.rel.getD ((j - v) / n) []).getD ((j - v) % n) 0
theorem Zq6 {md:Md} {n a v:Nat}(zU:Qa md=0)(hn:md.n=(n:Int))(ha:md.rel.length=a)(hv:md.val.length=v):∃k,k < 2^Yd n a v/\Bl n a v k=md:=by
 obtain⟨h1,_,_,_,h5,_,_⟩:=Zv zU;obtain⟨h6,h7⟩:=Hv zU;have wU:1<=n:=by omega
 have lD:md.n.toNat=n:=by omega
 rw [lD]at h6 h7;obtain⟨k,hk⟩:∃k,k=Yi (Yd n a v) (fun p=>(Wv md n v (p / n)).testBit (p % n)):=⟨_,rfl⟩;have MM:∀j,j < v+n*a->Wv md n v j < 2^n->Gf n k j=Wv md n v j:=fun j hj zJ=>by
  refine Nat.eq_of_testBit_eq fun b=> ?_
  rw [Zqq];by_cases hb:b < n
  ·rw [decide_eq_true hb,Bool.true_and,hk,Rw];have e1:(n*j+b) / n=j:=by rw [Nat.mul_add_div wU,Nat.div_eq_of_lt hb,Nat.add_zero]
   have e2:(n*j+b) % n=b:=by rw [Nat.mul_add_mod,Nat.mod_eq_of_lt hb]
   have e3:n*j+b < Yd n a v:=by
    unfold Yd;have h1:n*(j+1)<=n*(v+n*a):=Nat.mul_le_mul_left n hj;rw [Nat.mul_add,Nat.mul_add,Nat.mul_one,<-Nat.mul_assoc]at h1;omega
   rw [decide_eq_true e3,Bool.true_and,e1,e2]
  rw [decide_eq_false hb,Bool.false_and];exact(Nat.testBit_lt_two_pow (Qy zJ (Nat.pow_le_pow_right (by decide) (by omega)))).symm
 refine⟨k,by rw [hk];exact Nb _ _,?_⟩;obtain⟨mn,mv,mr⟩:=md;have QD:mn=(n:Int):=hn;have gG:mv.length=v:=hv;have DI:mr.length=a:=ha;subst QD;have ev:(List.range v).map (fun j=>Gf n k j)=mv:=by
  refine List.ext_getElem (by simp [gG]) fun j oM lS=> ?_
  rw [List.getElem_map,List.getElem_range];have e:Wv ⟨(n:Int),mv,mr⟩ n v j=mv[j]:=by
   unfold Wv;rw [if_pos (by omega),Qk,Qv lS];rfl
  rw [MM j (by omega) (by rw [e];exact h6 _ (List.getElem_mem lS)),e]
 have er:(List.range a).map (fun i=>(List.range n).map fun u=>Gf n k (v+(n*i+u)))=mr:=by
  refine List.ext_getElem (by simp [DI]) fun i gN dG=> ?_
  rw [List.getElem_map,List.getElem_range];have hl:=h5 _ (List.getElem_mem dG);have qN:(mr[i]).length=n:=by
   have:(((mr[i]).length:Nat):Int)=(n:Int):=hl;omega
  refine List.ext_getElem (by simp [qN]) fun u IB IA=> ?_
  rw [List.getElem_map,List.getElem_range];have bZ:u < n:=by omega
  have e:Wv ⟨(n:Int),mv,mr⟩ n v (v+(n*i+u))=(mr[i])[u]:=by
   unfold Wv;rw [if_neg (by omega),Nat.add_sub_cancel_left,Nat.mul_add_div wU,Nat.div_eq_of_lt bZ,Nat.add_zero,Nat.mul_add_mod,Nat.mod_eq_of_lt bZ];show(mr.getD i []).getD u 0=_;rw [Qk (l:=mr),Qv dG,Option.getD_some,Qk,Qv IA];rfl
  have zJ:v+(n*i+u) < v+n*a:=by
   have h1:n*(i+1)<=n*a:=Nat.mul_le_mul_left n (by omega);rw [Nat.mul_add,Nat.mul_one]at h1;omega
  rw [MM _ zJ (by rw [e];exact h7 _ (List.getElem_mem dG) _ (List.getElem_mem IA)),e]
 unfold Bl;rw [ev,er]
def Qzk(md:Md)(a v:Nat):Md:=⟨md.n,md.val.take v,md.rel.take a⟩
theorem Qeh {f:List Nd}(hc:check f=0):Yl f (Ye (Jl (Qf f))) (Ye (Yy (Qf f)))=true:=by
 unfold Yl;rw [Bool.and_eq_true,Bool.and_eq_true,List.all_eq_true,List.all_eq_true];refine⟨by rw [hc];rfl,fun i _=> ?_,fun i _=> ?_⟩
 ·unfold Xx;rw [Bool.or_eq_true,decide_eq_true_iff];cases hb:(Jl (Qf f)).testBit i
  ·exact Or.inl rfl
  exact Or.inr (Kf (Am _) hb)
 unfold Xx;rw [Bool.or_eq_true,decide_eq_true_iff];cases hb:(Yy (Qf f)).testBit i
 ·exact Or.inl rfl
 exact Or.inr (Kf (Am _) hb)
theorem Qsi {f:List Nd} {a b:Nat}(hc:check f=0)(h:Yl f a b=true):Ye (Jl (Qf f))<=a/\Ye (Yy (Qf f))<=b:=by
 have hh:=(Jb hc).2.2.2;unfold Yl at h;rw [Bool.and_eq_true,Bool.and_eq_true,List.all_eq_true,List.all_eq_true]at h;have hA:=Ry (Qf f) 0 hh (by decide);have hF:=Tb (Qf f) 0 hh (by decide);refine⟨Qyo (Nat.lt_pow_two_of_testBit _ fun i hi=> ?_),Qyo (Nat.lt_pow_two_of_testBit _ fun i hi=> ?_)⟩
 ·cases hb:(Jl (Qf f)).testBit i
  ·rfl
  have h4:=Kf hA hb;have:=h.2.1 i (List.mem_range.2 h4);unfold Xx at this;rw [hb,decide_eq_false (by omega)]at this;cases this
 cases hb:(Yy (Qf f)).testBit i
 ·rfl
 have h4:=Kf hF hb;have:=h.2.2 i (List.mem_range.2 h4);unfold Xx at this;rw [hb,decide_eq_false (by omega)]at this;cases this
theorem Uj.red {lg:Int} {f:List Nd} {md:Md} {k:Nat}(h:Uj lg f md k):Uj lg f (Qzk md (Ye (Jl (Qf f))) (Ye (Yy (Qf f)))) k:=by
 obtain⟨zU,hc,hs,hf⟩:=Vm h.ck;obtain⟨hA,hF⟩:=Qsi hc hf;have gO:=Qeh hc;obtain⟨A,hA1⟩:∃A,A=Ye (Jl (Qf f)):=⟨_,rfl⟩;obtain⟨F,DO⟩:∃F,F=Ye (Yy (Qf f)):=⟨_,rfl⟩;rw [<-hA1]at hA gO⊢;rw [<-DO]at hF gO⊢;obtain⟨h1,h2,h3,h4,h5,_,_⟩:=Zv zU;obtain⟨h6,h7⟩:=Hv zU;have wP:(Qzk md A F).rel.length=A:=by show(md.rel.take A).length=A;rw [List.length_take];omega
 have sN:(Qzk md A F).val.length=F:=by show(md.val.take F).length=F;rw [List.length_take];omega
 have MO:Qa (Qzk md A F)=0:=Qz3 h1 h2 (by omega) (by omega) (fun r hr=>h5 r (List.mem_of_mem_take hr)) (fun s hs=>h6 s (List.mem_of_mem_take hs)) (fun r hr=>h7 r (List.mem_of_mem_take hr));have WY:Jz (Qzk md A F) f=0:=by
  unfold Jz;rw [if_neg (by rw [MO];simp),if_neg (by rw [hc];simp),if_neg (by rw [hs];simp),wP,sN,if_neg (by rw [gO];simp)]
 have hE:Emb (Gx (Qzk md A F)) (Gx md) A F (fun i:Fin md.n.toNat=>i):=by
  refine⟨fun i h0 h1 u=> ?_,fun i h0 h1 u v=> ?_,fun i h0 h1 u y _=>⟨y,rfl⟩⟩
  ·show((md.val.take F).getD i.toNat 0).testBit u.1=true↔(md.val.getD i.toNat 0).testBit u.1=true;rw [Qk,List.getElem?_take,if_pos (by omega),Qk]
  obtain⟨a,rfl⟩:=Int.eq_ofNat_of_zero_le h0;have ha:a < A:=by omega
  refine(kmR (md:=Qzk md A F) (show a < (Qzk md A F).rel.length by omega) u v).trans (Iff.trans ?_ (kmR (md:=md) (by omega) u v).symm);show((((md.rel.take A).getD a []).getD u.1 0).testBit v.1=true)↔((md.rel.getD a []).getD u.1 0).testBit v.1=true;rw [show(md.rel.take A).getD a []=md.rel.getD a [] by rw [Qk,List.getElem?_take,if_pos ha,Qk]]
 refine⟨WY,h.lt,(Qqh MO h.good.lgr).2 fun a ha=> ?_,fun w hw=> ?_⟩
 ·rw [wP]at ha;exact hE.frm (by omega) (by omega) ((Qqh zU h.good.lgr).1 h.good a (by omega))
 have:=Qsh WY;rw [wP,sN]at this;exact(hE.sat _ this w).2 (h.sat w hw)
theorem Uj.num {lg:Int} {f:List Nd} {md:Md} {k:Nat}(h:Uj lg f md k):
 ∃j,j < 2^Yd md.n.toNat (Ye (Jl (Qf f))) (Ye (Yy (Qf f)))/\Uj lg f (Bl md.n.toNat (Ye (Jl (Qf f))) (Ye (Yy (Qf f))) j) 0:=by
 obtain⟨zU,hc,hs,hf⟩:=Vm h.ck;obtain⟨h1,h2,_⟩:=Zv zU;have hk:=h.lt;obtain⟨ws,RG⟩:∃ws,ws=(List.range md.n.toNat).map (fun i=>if i=0 then k else if i=k then 0 else i):=⟨_,rfl⟩;have zG:ws.length=md.n.toNat:=by rw [RG,List.length_map,List.length_range]
 have wG:∀u,u < md.n.toNat->u∈ws:=fun u hu=>by
  rw [RG,List.mem_map];by_cases e:u=k
  ·exact⟨0,List.mem_range.2 (by omega),by rw [if_pos rfl,e]⟩
  by_cases e0:u=0
  ·exact⟨k,List.mem_range.2 hk,by rw [if_neg (by omega),if_pos rfl,e0]⟩
  exact⟨u,List.mem_range.2 hu,by rw [if_neg e0,if_neg e]⟩
 have zJ:∀w∈ws,w < md.n.toNat:=fun u hu=>by
  rw [RG,List.mem_map]at hu;obtain⟨i,hi,rfl⟩:=hu;have:=List.mem_range.1 hi
  split
  ·exact hk
  split <;> omega
 have hj0:ws[0]?=some k:=by
  rw [RG,List.getElem?_map,List.getElem?_range (by omega)];rfl
 have h3:=(h.part zJ (fun a _ u _ v hv=>wG v (Da zU a u v hv).2) (by omega) hj0).red;have lV:=Qsi hc hf
 obtain⟨j,hj,e⟩:=Zq6 (md:=Qzk (Vj md ws) (Ye (Jl (Qf f))) (Ye (Yy (Qf f)))) (n:=md.n.toNat) (a:=Ye (Jl (Qf f))) (v:=Ye (Yy (Qf f))) h3.good.ck (by show(ws.length:Int)=_;rw [zG])
  (by show((Vj md ws).rel.take _).length=_;rw [List.length_take,show(Vj md ws).rel.length=md.rel.length by simp [Vj]];omega)
  (by show((Vj md ws).val.take _).length=_;rw [List.length_take,show(Vj md ws).val.length=md.val.length by simp [Vj]];omega)
 exact⟨j,hj,by rw [e];exact h3⟩
theorem Qf1(s:Nat):(Za s).Nodup:=List.Nodup.sublist (List.filter_sublist) List.nodup_range
theorem Qpi {n v k i:Nat}(hn:n<=64)(hk:k < n)(hv:v≠k)(h:(Za (Zl (Zk n) (2^v)))[i]?=some k):i=Va k v:=by
 have h2:=Qlr hn hk hv;obtain⟨h3,e3⟩:=List.getElem?_eq_some_iff.1 h;obtain⟨h4,e4⟩:=List.getElem?_eq_some_iff.1 h2;have hp:=List.pairwise_iff_getElem.1 (Qf1 (Zl (Zk n) (2^v)));rcases Nat.lt_trichotomy i (Va k v)with h5|h5|h5
 ·exact absurd (e3.trans e4.symm) (hp _ _ h3 h4 h5)
 ·exact h5
 exact absurd (e4.trans e3.symm) (hp _ _ h4 h3 h5)
theorem Ww:∀(m:Nat) (l:List Nat),l.Nodup->(∀u∈l,u < m)->l.length<=m
 |0,l,_,h=>by
  cases l with
  |nil=>simp
  |cons a r=>have:=h a (List.mem_cons_self ..);omega
 |m+1,l,hn,h=>by
  by_cases hm:m∈l
  ·have h1:=Ww m (l.erase m) (hn.erase m) (fun u hu=>by
    have h2:=List.mem_of_mem_erase hu;have h3:=h u h2;have h4:u≠m:=fun e=>by
     subst e;exact absurd hu (hn.not_mem_erase)
    omega)
   rw [List.length_erase_of_mem hm]at h1;omega
  have:=Ww m l hn (fun u hu=>by
   have h3:=h u hu;have h4:u≠m:=fun e=>hm (e▸hu)
   omega)
  omega
structure Pp (step:Nat->Nat->Bool) (m t:Nat) (q ps:List Nat):Prop where
 len:ps.length=q.length
 head:q[0]?=some t
 lt:∀u∈q.tail,u < m
 nd:q.tail.Nodup
 par:∀j,1<=j->j < q.length->ps.getD j 0 < j/\step (q.getD (ps.getD j 0) 0) (q.getD j 0)=true
section
variable {step:Nat->Nat->Bool} {m t:Nat} {q ps:List Nat}
theorem Pp.start(step:Nat->Nat->Bool)(m t:Nat):Pp step m t [t] [0]:=⟨rfl,rfl,by simp,by simp,fun j h1 h2=>by simp at h2;omega⟩
theorem Pp.pos(h:Pp step m t q ps):0 < q.length:=(List.getElem?_eq_some_iff.1 h.head).1
theorem Pp.qlen(h:Pp step m t q ps):q.length<=m+1:=by
 have:=Ww m q.tail h.nd h.lt;rw [List.length_tail]at this;omega
theorem Rc {l:List Nat} {x j:Nat}(h:j < l.length):(l++ [x]).getD j 0=l.getD j 0:=by
 rw [Qk,List.getElem?_append_left h,Qk]
theorem Ti {l:List Nat} {x:Nat} :(l++ [x]).getD l.length 0=x:=by simp
theorem Mi {l:List Nat} {x:Nat}(h:0 < l.length):(l++ [x]).tail=l.tail++ [x]:=by
 cases l with
 |nil=>simp at h
 |cons a r=>rfl
theorem Pp.push(h:Pp step m t q ps) {i u:Nat}(hi:i < q.length)(hu:u < m)(hn:u∉q.tail)(hs:step (q.getD i 0) u=true):Pp step m t (q++ [u]) (ps++ [i]):=by
 have hp:=h.pos;refine⟨by simp [h.len],?_,?_,?_,fun j h1 h2=> ?_⟩
 ·rw [List.getElem?_append_left hp];exact h.head
 ·rw [Mi hp];intro x hx;rcases List.mem_append.1 hx with hx|hx
  ·exact h.lt x hx
  rw [List.mem_singleton.1 hx];exact hu
 ·rw [Mi hp,List.nodup_append];exact⟨h.nd,by simp,fun a ha b hb e=>hn (by rw [List.mem_singleton.1 hb]at e;exact e▸ha)⟩
 by_cases hj:j < q.length
 ·have:=h.par j h1 hj;rw [Rc (by rw [h.len];exact hj),Rc hj,Rc (by omega)];exact this
 have e:j=q.length:=by simp at h2;omega
 subst e;have e2:(ps++ [i]).getD q.length 0=i:=by rw [<-h.len];exact Ti
 rw [e2,Ti,Rc hi];exact⟨hi,hs⟩
theorem Qkd {l:List Nat} {j:Nat}(h1:1<=j)(h2:j < l.length):l.getD j 0∈l.tail:=by
 cases l with
 |nil=>simp at h2
 |cons a r =>
  obtain⟨k,rfl⟩:∃k,j=k+1:=⟨j - 1,by omega⟩;have hk:k < r.length:=by simpa using h2
  rw [Qk,List.getElem?_cons_succ,Qv hk];exact List.getElem_mem hk
theorem Pp.reach(h:Pp step m t q ps):∀j,1<=j->j < q.length->Kj (fun a b=>step a b=true) t (q.getD j 0):=by
 intro j
 induction j using Nat.strongRecOn with
 |_ j ih =>
  intro h1 h2;obtain⟨hp,hs⟩:=h.par j h1 h2;by_cases h0:ps.getD j 0=0
  ·rw [h0]at hs;have e:q.getD 0 0=t:=by rw [Qk,h.head];rfl
   rw [e]at hs;exact .one hs
  exact(ih _ hp (by omega) (by omega)).snoc hs
theorem Pp.closed(h:Pp step m t q ps)(hc:∀j,j < q.length->∀u,step (q.getD j 0) u=true->u∈q.tail) {u:Nat}(hr:Kj (fun a b=>step a b=true) t u):u∈q.tail:=by
 have key:∀a b,Kj (fun a b=>step a b=true) a b->(∃j,j < q.length/\q.getD j 0=a)->b∈q.tail:=by
  intro a b qF
  induction qF with
  |one h1 =>
   rintro⟨j,hj,rfl⟩;exact hc j hj _ h1
  |cons h1 _ ih =>
   rintro⟨j,hj,rfl⟩;refine ih ?_;have hm:=hc j hj _ h1;obtain⟨k,hk,e⟩:=List.getElem_of_mem hm;rw [List.length_tail]at hk;refine⟨k+1,by omega,?_⟩;rw [List.getElem_tail]at e;rw [Qk,List.getElem?_eq_getElem (by omega)];exact e
 exact key t u hr ⟨0,h.pos,by rw [Qk,h.head];rfl⟩
end
def Wb(step:Nat->Nat->Bool)(t:Nat):List Nat->Prop
 |[]=>True
 |[u]=>step t u=true
 |u :: v :: r=>step v u=true/\Wb step t (v :: r)
theorem Qxc {step:Nat->Nat->Bool} {t:Nat} :∀(l:List Nat) (u:Nat),(∀a,Wb step a l->step t u=true->a=u->Wb step t (l++ [u]))
 |[],u=>fun _ _ h _=>h
 |[v],u=>fun a h1 h2 e=>by subst e;exact⟨h1,h2⟩
 |v :: x :: r,u=>fun a h1 h2 e=>⟨h1.1,Qxc (x :: r) u a h1.2 h2 e⟩
def Nt(l:List Nat)(i:Int):List Nat:=if 0<=i/\i.toNat∉l then l++ [i.toNat]else l
def Pk(lg:Int)(ks:List Kn)(l:List Nat)(t:Nat)(k:Kn):Prop:=t.testBit k.place=false->∃u,u∈l/\k.holds.getD u false=false/\Jy lg ks k.agent t u=true
def Pv(lg:Int)(ks:List Kn)(al:List Bool)(l:List Nat)(t:Nat)(c:Cm):Prop:=t.testBit c.place=false->∃u,Kj (fun a b=>Pm lg ks al c a b=true/\b∈l) t u/\c.y.getD u false=false
def Hq(lg:Int)(ks:List Kn)(l:List Nat)(t a:Nat):Prop:=lg=1\/lg=5->∃u,u∈l/\Jy lg ks (a:Int) t u=true
structure Sel (lg:Int) (ks:List Kn) (cs:List Cm) (al:List Bool) (agents:Nat) (l:List Nat) (t:Nat):Prop where
 know:∀k∈ks,Pk lg ks l t k
 com:∀c∈cs,Pv lg ks al l t c
 ser:∀a,a < agents->Hq lg ks l t a
structure Ki (al:List Bool) (l l':List Nat):Prop where
 pre:l <+: l'
 nd:l.Nodup->l'.Nodup
 al:(∀u∈l,al.getD u false=true)->∀u∈l',al.getD u false=true
section
variable {lg:Int} {ks:List Kn} {cs:List Cm} {al:List Bool} {agents:Nat} {l l' l'':List Nat} {t:Nat}
theorem Ki.refl:Ki al l l:=⟨List.prefix_refl _,id,id⟩
theorem Ki.trans(h:Ki al l l')(k:Ki al l' l''):Ki al l l'':=⟨h.pre.trans k.pre,fun e=>k.nd (h.nd e),fun e=>k.al (h.al e)⟩
theorem Ki.sub(h:Ki al l l'):∀u∈l,u∈l':=fun _ hu=>h.pre.subset hu
theorem Ki.get(h:Ki al l l') {k:Nat}(hk:k < l.length):l'.getD k 0=l.getD k 0:=by
 obtain⟨r,rfl⟩:=h.pre;rw [Qk,Qk,List.getElem?_append_left hk]
theorem Pk.mono {k:Kn}(h:Pk lg ks l t k)(hs:∀u∈l,u∈l'):Pk lg ks l' t k:=fun ht=>by
 obtain⟨u,h1,h2⟩:=h ht;exact⟨u,hs u h1,h2⟩
theorem Pv.mono {c:Cm}(h:Pv lg ks al l t c)(hs:∀u∈l,u∈l'):Pv lg ks al l' t c:=fun ht=>by
 obtain⟨u,h1,h2⟩:=h ht;exact⟨u,h1.mono (fun a b hb=>⟨hb.1,hs b hb.2⟩),h2⟩
theorem Hq.mono {a:Nat}(h:Hq lg ks l t a)(hs:∀u∈l,u∈l'):Hq lg ks l' t a:=fun ht=>by
 obtain⟨u,h1,h2⟩:=h ht;exact⟨u,hs u h1,h2⟩
theorem Sel.mono(h:Sel lg ks cs al agents l t)(hs:∀u∈l,u∈l'):Sel lg ks cs al agents l' t :=
 ⟨fun k hk=>(h.know k hk).mono hs,fun c hc=>(h.com c hc).mono hs,fun a ha=>(h.ser a ha).mono hs⟩
theorem Qdg {i:Int}(h0:0<=i):i.toNat∈Nt l i:=by
 unfold Nt;by_cases h:i.toNat∈l
 ·rw [if_neg (fun e=>e.2 h)];exact h
 rw [if_pos ⟨h0,h⟩];simp
theorem Qg7 {i:Int}(h:0<=i->al.getD i.toNat false=true):Ki al l (Nt l i):=by
 unfold Nt;by_cases h1:0<=i/\i.toNat∉l
 ·rw [if_pos h1];refine⟨List.prefix_append _ _,fun hn=> ?_,fun ha u hu=> ?_⟩
  ·rw [List.nodup_append];exact⟨hn,by simp,fun a ha b hb e=>h1.2 (by rw [List.mem_singleton.1 hb]at e;rwa [<-e])⟩
  rcases List.mem_append.1 hu with hu|hu
  ·exact ha u hu
  rw [List.mem_singleton.1 hu];exact h h1.1
 rw [if_neg h1];exact Ki.refl
theorem Qss {i:Int}(h:¬(0<=i/\i.toNat∉l)):Nt l i=l:=if_neg h
theorem Qa1 {i:Int}(h0:0<=i)(h:i.toNat∉l):Nt l i=l++ [i.toNat]:=if_pos ⟨h0,h⟩
def Wy(lg:Int)(ks:List Kn)(al:List Bool)(a:Int)(t:Nat)(wanted:Nat->Bool)(l:List Nat):List Nat :=
 if l.any (fun u=>wanted u&&Jy lg ks a t u)then l else Nt l (Xw lg ks al a t wanted)
theorem Qnb {a:Int} {wanted:Nat->Bool}(h:0<=Xw lg ks al a t wanted):Xo lg ks al a t wanted (Xw lg ks al a t wanted).toNat=true:=by
 unfold Xw at h⊢;cases e:(List.range al.length).find? (Xo lg ks al a t wanted)with
 |none=>rw [e]at h;simp at h
 |some k =>
  obtain⟨h1,_,_⟩:=List.find?_range_eq_some.1 e
  simpa using h1
theorem Qrb {a:Int} {wanted:Nat->Bool} :Ki al l (Wy lg ks al a t wanted l):=by
 unfold Wy
 split
 ·exact Ki.refl
 refine Qg7 fun h0=> ?_
 have:=Qnb h0;unfold Xo at this;rw [Bool.and_eq_true]at this;exact this.1
theorem Qta {a:Int} {wanted:Nat->Bool}(h:0<=Xw lg ks al a t wanted):∃u,u∈Wy lg ks al a t wanted l/\wanted u=true/\Jy lg ks a t u=true:=by
 unfold Wy
 split
 ·rename_i h1;rw [List.any_eq_true]at h1;obtain⟨u,hu,h2⟩:=h1;rw [Bool.and_eq_true]at h2;exact⟨u,hu,h2⟩
 have:=Qnb h;unfold Xo at this;rw [Bool.and_eq_true,Bool.and_eq_true]at this;exact⟨_,Qdg h,this.2⟩
def Nz(l ls:List Nat):List Nat:=ls.foldl (fun o (u:Nat)=>Nt o (u:Int)) l
theorem Qy8:∀(ls l:List Nat),(∀u∈ls,al.getD u false=true)->Ki al l (Nz l ls)
 |[],_,_=>Ki.refl
 |a :: r,l,h=>(Qg7 (fun _=>by rw [Int.toNat_natCast];exact h a (List.mem_cons_self ..))).trans (Qy8 r _ (fun u hu=>h u (List.mem_cons_of_mem _ hu)))
theorem Qk6:∀(ls l:List Nat) (u:Nat),u∈ls\/u∈l->u∈Nz l ls
 |[],_,_,h=>by rcases h with h|h;· cases h
               ·exact h
 |a :: r,l,u,h=>by
  have hs:∀v,v∈l->v∈Nt l (a:Int):=fun v hv=>by
   unfold Nt;split
   ·exact List.mem_append.2 (Or.inl hv)
   exact hv
  refine Qk6 r _ u ?_;rcases h with h|h
  ·rcases List.mem_cons.1 h with rfl|h
   ·exact Or.inr (by have:=Qdg (l:=l) (i:=(u:Int)) (by omega);rwa [Int.toNat_natCast]at this)
   exact Or.inl h
  exact Or.inr (hs u h)
theorem Qfs {step:Nat->Nat->Bool} {t:Nat} :∀(ls:List Nat) (u:Nat),ls[0]?=some u->Wb step t ls->Kj (fun a b=>step a b=true/\b∈ls) t u
 |[],_,h,_=>by cases h
 |[v],u,h,hl=>by
  obtain rfl:v=u:=by simpa using h
  exact .one ⟨hl,List.mem_singleton.2 rfl⟩
 |a :: b :: r,u,h,hl=>by
  obtain rfl:a=u:=by simpa using h
  have ih:=Qfs (b :: r) b rfl hl.2;exact(ih.mono (fun x y oS=>⟨oS.1,List.mem_cons_of_mem _ oS.2⟩)).snoc ⟨hl.1,List.mem_cons_self ..⟩
theorem Qfr {step:Nat->Nat->Bool} {t:Nat} :∀(ls:List Nat),Wb step t ls->∀u∈ls,∃a,step a u=true
 |[],_,u,h=>by cases h
 |[v],hl,u,h=>by rw [List.mem_singleton.1 h];exact⟨t,hl⟩
 |a :: b :: r,hl,u,h=>by
  rcases List.mem_cons.1 h with rfl|h
  ·exact⟨b,hl.1⟩
  exact Qfr (b :: r) hl.2 u h
theorem Zzm {c:Cm} {a u:Nat}(h:Pm lg ks al c a u=true):al.getD u false=true:=by
 unfold Pm at h;rw [Bool.and_eq_true]at h;exact h.1
end
section
variable {l:List (List Nd)} {t0:Tr} (hB:Ls l t0) {lg:Int}
include hB
theorem Qee {al:List Bool} {agents:Nat} {S:List Nat}(hl:al.length=2^l.length)(hS:∀u∈S,al.getD u false=true)(hc:∀t,al.getD t false=true->Vk lg (Zs l) (Jm l) t=true)
 (hw:∀t∈S,Sel lg (Zs l) (Jm l) al agents S t)(uZ:∀n a,.one n a∈l.map Qh->n.i < (agents:Int)):Od lg (l.map Qh) (fun t=>t∈S) (th l) where
 coh t ht:=(Qgd hB (hl▸Xr (hS t ht))).1 (hc t (hS t ht))
 ser hs t ht i ho:=by
  obtain⟨n,a,hm,hi⟩:=ho;obtain⟨_,_,_,h0,h4⟩:=hB.closed.know n a hm;have h1:=uZ n a hm;obtain⟨u,hu,hp⟩:=(hw t ht).ser i.toNat (by omega) hs;rw [show((i.toNat:Nat):Int)=i by omega]at hp;exact⟨u,hu,(Bm hB (hl▸Xr (hS u hu))).1 hp⟩
 know t ht n a hm hf:=by
  obtain⟨j,hg,hj,sP⟩:=Bo hB hm;obtain⟨u,hu,h2,hp⟩:=(hw t ht).know _ ((Gm hB).2 ⟨j,n,a,hm,hg,rfl⟩) (by rw [<-sP];exact hf);have rS:u < 2^l.length:=hl▸Xr (hS u hu);exact⟨u,hu,by rw [<-Mm hB hm rS];exact h2,(Bm hB rS).1 hp⟩
 com t ht n a b hm hf:=by
  obtain⟨j,hg,hj,sP⟩:=Bo hB hm;obtain⟨u,hr,hy⟩:=(hw t ht).com _ ((Rd hB).2 ⟨j,n,a,b,hm,hg,rfl⟩) (by rw [<-sP];exact hf);have RU:Kj (Ha lg (l.map Qh) (fun t=>t∈S) (th l) n.g a) t u:=hr.mono (fun x y oS=>⟨oS.2,((Qkc hB hl hm x y).1 oS.1).2⟩);have rS:u∈S:=by
   have key:∀x y,Kj (Ha lg (l.map Qh) (fun t=>t∈S) (th l) n.g a) x y->y∈S:=by
    intro x y oS
    induction oS with
    |one h=>exact h.1
    |cons _ _ ih=>exact ih
   exact key t u RU
  exact⟨u,RU,by rw [<-(Qz6 hB hm (hl▸Xr (hS u rS))).2];exact hy⟩
end
structure Qb3 (lg:Int) (ks:List Kn) (cs:List Cm) (al:List Bool) (t:Nat):Prop where
 know:∀k∈ks,t.testBit k.place=false->0<=Xw lg ks al k.agent t (fun u=> !k.holds.getD u false)
 com:∀c∈cs,t.testBit c.place=false->Hs lg ks al c t=true
 ser:lg=1\/lg=5->∀a:Nat,a < 4->0<=Xw lg ks al (a:Int) t (fun _=>true)
theorem Zq2 {lg:Int} {ks:List Kn} {al:List Bool} {a:Int} {t u:Nat} {wanted:Nat->Bool}(h:Xo lg ks al a t wanted u=true):0<=Xw lg ks al a t wanted:=by
 refine Int.not_lt.1 fun hn=> ?_
 have hu:al.getD u false=true:=by
  unfold Xo at h;rw [Bool.and_eq_true]at h;exact h.1
 rw [Es.1 hn u (Xr hu)]at h;cases h
section
variable {l:List (List Nd)} {t0:Tr} (hB:Ls l t0) {lg:Int}
include hB
theorem Qwb {al:List Bool}(hw:∀t,al.getD t false=true->∀i:Int,-4<=i->i < l.length->Vr lg (Zs l) (Jm l) al t i=false) {t:Nat}(ht:al.getD t false=true):Qb3 lg (Zs l) (Jm l) al t where
 know k hk hf:=by
  obtain⟨j,n,a,hm,hg,rfl⟩:=(Gm hB).1 hk;have hj:j < l.length:=(List.getElem?_eq_some_iff.1 hg).1;have h:=hw t ht (j:Int) (by omega) (by omega);unfold Vr at h;rw [decide_eq_false (show ¬(j:Int) < 0 by omega),cond_false,Qs4 hB hm hg]at h;simp only [Int.toNat_natCast]at h;rw [show t.testBit j=false from hf,Bool.not_false,Bool.true_and,decide_eq_false_iff_not]at h;exact Int.not_lt.1 h
 com c hc hf:=by
  obtain⟨j,n,a,b,hm,hg,rfl⟩:=(Rd hB).1 hc;have hj:j < l.length:=(List.getElem?_eq_some_iff.1 hg).1;have h:=hw t ht (j:Int) (by omega) (by omega);unfold Vr at h;rw [decide_eq_false (show ¬(j:Int) < 0 by omega),cond_false,Qs5 hB hm hg,Qsa hB hm hg]at h;simp only [Int.toNat_natCast]at h;rw [show t.testBit j=false from hf,Bool.not_false,Bool.true_and]at h
  simpa using h
 ser hs a ha:=by
  by_cases tK:(Zs l).any (fun k=>k.agent==(a:Int))=true
  ·have h:=hw t ht (-1 - (a:Int)) (by omega) (by omega);unfold Vr at h;rw [decide_eq_true (show -1 - (a:Int) < 0 by omega),cond_true,show -1 - (-1 - (a:Int))=a by omega,tK]at h;have xX:(lg==1||lg==5)=true:=by rcases hs with e|e <;> rw [e] <;> rfl
   rw [xX,Bool.true_and,Bool.true_and,decide_eq_false_iff_not]at h;exact Int.not_lt.1 h
  refine Zq2 (u:=t) ?_;unfold Xo;rw [ht,Bool.true_and,Bool.true_and];unfold Jy;rw [List.all_eq_true];intro k hk;have:¬(k.agent==(a:Int))=true:=fun e=>tK (List.any_eq_true.2 ⟨k,hk,e⟩)
  have:(k.agent !=(a:Int))=true:=by unfold bne;rw [Bool.not_eq_true]at this;rw [this];rfl
  rw [this,Bool.true_or]
end
theorem Qp1 {lg:Int} {f:List Nd}(h:Ba lg f) {t:Nat}(ht:(Rt lg f).1.getD t false=true):Qb3 lg (Zs (Qp f).1) (Jm (Qp f).1) (Rt lg f).1 t:=by
 refine Qwb h.b (fun t ht i h0 h1=> ?_) ht;have:=Qv6 (why:=Tc lg (Zs (Qp f).1) (Jm (Qp f).1) (Qp f).1.length) ((Kh lg (Qp f).1).length+1) (Kh lg (Qp f).1,[]) (by have:=Qxv (Kh lg (Qp f).1);show Pa (Kh lg (Qp f).1) < _;omega) t ht;exact Qbf this i h0 h1
theorem Zqj {lg:Int} {f:List Nd}(t:Nat)(ht:(Rt lg f).1.getD t false=true):Vk lg (Zs (Qp f).1) (Jm (Qp f).1) t=true:=by
 have hs:=Qdi (Tc lg (Zs (Qp f).1) (Jm (Qp f).1) (Qp f).1.length) _ (Kh lg (Qp f).1,[]) t ht;have hl:=Xr hs;rw [Te]at hl;rw [<-Qzo hl];exact hs
theorem Qea {lg:Int} {f:List Nd}(h:Ba lg f) {agents:Nat} {S:List Nat}(hS:∀u∈S,(Rt lg f).1.getD u false=true)
 (hw:∀t∈S,Sel lg (Zs (Qp f).1) (Jm (Qp f).1) (Rt lg f).1 agents S t)(uZ:∀n a,.one n a∈(Qp f).1.map Qh->n.i < (agents:Int)):Od lg ((Qp f).1.map Qh) (fun t=>t∈S) (th (Qp f).1):=
 Qee h.b Mb hS Zqj hw uZ
section
variable {M N:KM} (e:N.W->M.W)
structure Zjm (n:Nd):Prop where
 agent:n.op=9\/n.op=10->∀u v,N.R n.i u v↔M.R n.i (e u) (e v)
 group:n.op=11\/n.op=12\/n.op=13->∀i:Nat,i < 4->Vg n.g i=true->∀u v,N.R (i:Int) u v↔M.R (i:Int) (e u) (e v)
 fact:n.op=3->∀u,N.V n.i u↔M.V n.i (e u)
theorem Qy3(hs:∀v,∃u,e u=v):∀(t:Tr),t.all (Zjm e)->∀u,N.sat t u↔M.sat t (e u)
 |.leaf n,h,u=>by
  show(n.op=1\/(n.op=3/\N.V n.i u))↔(n.op=1\/(n.op=3/\M.V n.i (e u)));refine or_congr Iff.rfl ⟨fun⟨h1,h2⟩=>⟨h1,(h.fact h1 u).1 h2⟩,fun⟨h1,h2⟩=>⟨h1,(h.fact h1 u).2 h2⟩⟩
 |.one n a,h,u=>by
  have ih:=Qy3 hs a h.2;unfold KM.sat;by_cases h4:n.op=4
  ·rw [if_pos h4,if_pos h4,ih u]
  rw [if_neg h4,if_neg h4];by_cases h9:n.op=9
  ·rw [if_pos h9,if_pos h9];constructor
   ·intro k v hv;obtain⟨v',rfl⟩:=hs v;exact(ih v').1 (k v' ((h.1.agent (.inl h9) u v').2 hv))
   intro k v hv;exact(ih v).2 (k (e v) ((h.1.agent (.inl h9) u v).1 hv))
  rw [if_neg h9,if_neg h9];by_cases xT:n.op=10
  ·rw [if_pos xT,if_pos xT];constructor
   ·rintro⟨v,hv,k⟩;exact⟨e v,(h.1.agent (.inr xT) u v).1 hv,(ih v).1 k⟩
   rintro⟨v,hv,k⟩;obtain⟨v',rfl⟩:=hs v;exact⟨v',(h.1.agent (.inr xT) u v').2 hv,(ih v').2 k⟩
  rw [if_neg xT,if_neg xT];by_cases uL:n.op=11
  ·rw [if_pos uL,if_pos uL];constructor
   ·intro k i hi hg v hv;obtain⟨v',rfl⟩:=hs v;exact(ih v').1 (k i hi hg v' ((h.1.group (.inl uL) i hi hg u v').2 hv))
   intro k i hi hg v hv;exact(ih v).2 (k i hi hg (e v) ((h.1.group (.inl uL) i hi hg u v).1 hv))
  rw [if_neg uL,if_neg uL];by_cases h12:n.op=12
  ·rw [if_pos h12,if_pos h12];constructor
   ·intro k v hv;obtain⟨v',rfl⟩:=hs v;exact(ih v').1 (k v' fun i hi hg=>(h.1.group (.inr (.inl h12)) i hi hg u v').2 (hv i hi hg))
   intro k v hv;exact(ih v).2 (k (e v) fun i hi hg=>(h.1.group (.inr (.inl h12)) i hi hg u v).1 (hv i hi hg))
  rw [if_neg h12,if_neg h12]
 |.two n a b,h,u=>by
  have iha:=Qy3 hs a h.2.1;have ihb:=Qy3 hs b h.2.2;unfold KM.sat;by_cases h5:n.op=5
  ·rw [if_pos h5,if_pos h5,iha u,ihb u]
  rw [if_neg h5,if_neg h5];by_cases h6:n.op=6
  ·rw [if_pos h6,if_pos h6,iha u,ihb u]
  rw [if_neg h6,if_neg h6];by_cases h7:n.op=7
  ·rw [if_pos h7,if_pos h7,iha u,ihb u]
  rw [if_neg h7,if_neg h7];by_cases h8:n.op=8
  ·rw [if_pos h8,if_pos h8,iha u,ihb u]
  rw [if_neg h8,if_neg h8];by_cases xI:n.op=13
  ·rw [if_pos xI,if_pos xI];have wZ:∀x y,N.step n.g (N.sat a) x y↔M.step n.g (M.sat a) (e x) (e y):=fun x y=>by
    unfold KM.step;rw [iha y];refine and_congr ⟨?_,?_⟩ Iff.rfl
    ·rintro⟨i,hi,hg,hr⟩;exact⟨i,hi,hg,(h.1.group (.inr (.inr xI)) i hi hg x y).1 hr⟩
    rintro⟨i,hi,hg,hr⟩;exact⟨i,hi,hg,(h.1.group (.inr (.inr xI)) i hi hg x y).2 hr⟩
   have up:∀x y,Kj (N.step n.g (N.sat a)) x y->Kj (M.step n.g (M.sat a)) (e x) (e y):=fun x y hr=>hr.map e (fun x y h=>(wZ x y).1 h)
   have down:∀p q,Kj (M.step n.g (M.sat a)) p q->∀x,e x=p->∃y,e y=q/\Kj (N.step n.g (N.sat a)) x y:=by
    intro p q hr
    induction hr with
    |@one p q hp =>
     rintro x rfl;obtain⟨y,rfl⟩:=hs q;exact⟨y,rfl,.one ((wZ x y).2 hp)⟩
    |@cons p q r hp _ ih =>
     rintro x rfl;obtain⟨y,rfl⟩:=hs q;obtain⟨z,hz,hr⟩:=ih y rfl;exact⟨z,hz,.cons ((wZ x y).2 hp) hr⟩
   constructor
   ·intro k v hv;obtain⟨y,rfl,hy⟩:=down _ _ hv u rfl;exact(ihb y).1 (k y hy)
   intro k v hv;exact(ihb v).2 (k (e v) (up u v hv))
  rw [if_neg xI,if_neg xI]
end
structure Io (lg:Int) (base:List (List Nd)) (S:List Nat) (agents facts:Nat) (md:Md):Prop where
 n:md.n=S.length
 rel:md.rel=(List.range agents).map fun(a:Nat)=>(List.range S.length).map fun v=>Yi S.length fun w=>Jy lg (Zs base) (a:Int) (S.getD v 0) (S.getD w 0)
 vlen:md.val.length=facts
 vlow:∀s∈md.val,s < 2^S.length
 fact:∀(i p:Nat),i < base.length->(Qi (base.getD i [])).op=3->(Qi (base.getD i [])).i=(p:Int)->∀w,w < S.length->(md.val.getD p 0).testBit w=(S.getD w 0).testBit i
section
variable {lg:Int} {l:List (List Nd)} {t0:Tr} {S:List Nat} {agents facts:Nat} {md:Md}
theorem Io.row(h:Io lg l S agents facts md) {a:Nat}(ha:a < agents):md.rel.getD a []=(List.range S.length).map fun v=>Yi S.length fun w=>Jy lg (Zs l) (a:Int) (S.getD v 0) (S.getD w 0):=by
 rw [h.rel,Qk,List.getElem?_map,List.getElem?_range ha];rfl
theorem Io.bit(h:Io lg l S agents facts md) {a:Nat}(ha:a < agents) {v w:Nat}(hv:v < S.length):((md.rel.getD a []).getD v 0).testBit w=(decide (w < S.length)&&Jy lg (Zs l) (a:Int) (S.getD v 0) (S.getD w 0)):=by
 rw [h.row ha,Qk,List.getElem?_map,List.getElem?_range hv];exact Rw _ _ _
theorem Fa {S:List Nat} {v:Nat}(h:v < S.length):S.getD v 0∈S:=by
 rw [Qk,Qv h];exact List.getElem_mem _
theorem Qs1 {S:List Nat} {u:Nat}(h:u∈S):∃w,w < S.length/\S.getD w 0=u:=by
 obtain⟨w,hw,e⟩:=List.getElem_of_mem h;exact⟨w,hw,by rw [Qk,Qv hw];exact e⟩
variable (hB:Ls l t0) (xX:0<=lg/\lg<=6) (hF:Od lg (l.map Qh) (fun t=>t∈S) (th l)) (zJ:∀u∈S,u < 2^l.length)
include hB xX hF zJ
theorem Qe1(h:Io lg l S agents facts md)(h0:0 < S.length)(uH:S.length<=64)(Q6:agents<=4)(N9:facts<=8):Fw md lg:=by
 have hM:=Qs8 hF xX.2;have uD:md.n.toNat=S.length:=by rw [h.n];exact Int.toNat_natCast _
 have wP:md.rel.length=agents:=by rw [h.rel];simp
 have zR:∀r∈md.rel,∃a,a < agents/\r=md.rel.getD a []:=fun r hr=>by
  obtain⟨a,ha,e⟩:=List.getElem_of_mem hr;exact⟨a,by omega,by rw [Qk,Qv ha];exact e.symm⟩
 have zG:∀a,a < agents->(md.rel.getD a []).length=S.length:=fun a ha=>by rw [h.row ha];simp
 have CY:∀a,a < agents->Zn (md.rel.getD a []) S.length=false:=fun a ha=>by
  unfold Zn;rw [List.any_eq_false];intro s hs;rw [h.row ha]at hs;obtain⟨v,_,rfl⟩:=List.mem_map.1 hs
  simpa using Nb _ _
 refine⟨xX,?_,fun r hr=> ?_⟩
 ·unfold Qa;rw [if_neg (by rw [h.n];omega),if_neg (by rw [wP,h.vlen];omega),uD];have h1:md.rel.any (fun r=> !decide ((r.length:Int)=md.n))=false:=by
   rw [List.any_eq_false];intro r hr;obtain⟨a,ha,rfl⟩:=zR r hr;rw [zG a ha,h.n];simp
  have h2:Zn md.val S.length=false:=by
   unfold Zn;rw [List.any_eq_false];intro s hs;have:=h.vlow s hs
   simpa using this
  have h3:md.rel.any (fun r=>Zn r S.length)=false:=by
   rw [List.any_eq_false];intro r hr;obtain⟨a,ha,rfl⟩:=zR r hr;rw [CY a ha];simp
  rw [h1,h2,h3];rfl
 obtain⟨a,ha,rfl⟩:=zR r hr;have xM:=hM (a:Int);have nR:∀v w,v < S.length->(((md.rel.getD a []).getD v 0).testBit w=true↔w < S.length/\Mx lg (l.map Qh) (a:Int) (th l (S.getD v 0)) (th l (S.getD w 0))):=fun v w hv=>by
  rw [h.bit ha hv,Bool.and_eq_true,decide_eq_true_iff];refine and_congr_right fun hw=> ?_
  exact Bm hB (zJ _ (Fa hw))
 have hl:=zG a ha;generalize md.rel.getD a []=r at nR hl;intro q hq;have hq':=hq;unfold Gd at hq;have wG:=Qjo hq';unfold Kg;by_cases h1:q=1
 ·rw [if_pos h1];intro v hv hz;rw [hl]at hv;have hs:lg=1\/lg=5:=by
   subst h1
   repeat' split at hq
   all_goals(simp at hq;try omega)
  obtain⟨u,hp⟩:=xM.ser hs ⟨S.getD v 0,Fa hv⟩;obtain⟨w,hw,e⟩:=Qs1 u.2;have L6:Mx lg (l.map Qh) (a:Int) (th l (S.getD v 0)) (th l u.1):=hp;rw [<-e]at L6;have:=(nR v w hv).2 ⟨hw,L6⟩;rw [hz,Nat.zero_testBit]at this;cases this
 rw [if_neg h1];by_cases h2:q=2
 ·rw [if_pos h2];intro v hv;rw [hl]at hv;have hs:lg=2\/lg=4\/lg=6:=by
   subst h2
   repeat' split at hq
   all_goals(simp at hq;try omega)
  exact(nR v v hv).2 ⟨hv,xM.refl hs ⟨S.getD v 0,Fa hv⟩⟩
 rw [if_neg h2];by_cases h4:q=4
 ·rw [if_pos h4];have hs:3<=lg/\lg<=6:=by
   subst h4
   repeat' split at hq
   all_goals(simp at hq;try omega)
  intro w u hw hu GY;show Jr (r.getD u 0) (r.getD w 0)=true;rw [Je];rw [hl]at hw hu;intro v hv;obtain⟨_,p1⟩:=(nR w u hw).1 GY;obtain⟨gG,p2⟩:=(nR u v hu).1 hv;exact(nR w v hw).2 ⟨gG,xM.trans hs ⟨S.getD w 0,Fa hw⟩ ⟨S.getD u 0,Fa hu⟩ ⟨S.getD v 0,Fa gG⟩ p1 p2⟩
 rw [if_neg h4];have hs:lg=5\/lg=6:=by
  have:q=5:=by omega
  subst this
  repeat' split at hq
  all_goals(simp at hq;try omega)
 intro w u hw hu GY;show Jr (r.getD w 0) (r.getD u 0)=true;rw [Je];rw [hl]at hw hu;intro v hv;obtain⟨_,p1⟩:=(nR w u hw).1 GY;obtain⟨gG,p2⟩:=(nR w v hw).1 hv;exact(nR u v hu).2 ⟨gG,xM.eucl hs ⟨S.getD w 0,Fa hw⟩ ⟨S.getD u 0,Fa hu⟩ ⟨S.getD v 0,Fa gG⟩ p1 p2⟩
end
theorem Rn {B:List Tr}(hB:Ij B):∀t:Tr,cov B t->lang t->t.all (fun n=>n.op=3->Tr.leaf n∈B)
 |.leaf _,h,_=>h
 |.one n a,h,hl=>by
  have h3:n.op=3->Tr.leaf n∈B:=fun e=>by rcases hl.1 with h1|h1 <;> omega
  by_cases h9:n.op=9
  ·have hm:.one n a∈B:=by simpa [cov,h9]using h
   obtain⟨_,hc,uE,_⟩:=hB.know n a hm;exact⟨h3,Rn hB a hc uE⟩
  have hc:cov B a:=by simpa [cov,h9]using h
  exact⟨h3,Rn hB a hc hl.2⟩
 |.two n a b,h,hl=>by
  have h3:n.op=3->Tr.leaf n∈B:=fun e=>by rcases hl.1 with h1|h1 <;> omega
  by_cases xI:n.op=13
  ·have hm:.two n a b∈B:=by simpa [cov,xI]using h
   obtain⟨_,qC,rN,uE,lR,_⟩:=hB.com n a b hm;exact⟨h3,Rn hB a qC uE,Rn hB b rN lR⟩
  have hc:cov B a/\cov B b:=by simpa [cov,xI]using h
  exact⟨h3,Rn hB a hc.1 hl.2.1,Rn hB b hc.2 hl.2.2⟩
theorem Iv {P Q R:Nd->Prop}(h:∀n,P n->Q n->R n):∀t:Tr,t.all P->t.all Q->t.all R
 |.leaf n,h1,h2=>h n h1 h2
 |.one n a,h1,h2=>⟨h n h1.1 h2.1,Iv h a h1.2 h2.2⟩
 |.two n a b,h1,h2=>⟨h n h1.1 h2.1,Iv h a h1.2.1 h2.2.1,Iv h b h1.2.2 h2.2.2⟩
theorem Qqn:∀t:Tr,Ig t->t.ok->t.all (fun n=>n.op=3->n=⟨3,n.i,0,0,0,0⟩)
 |.leaf _,h,_=>h
 |.one n a,h,ho=>⟨fun e=>absurd (e▸ho.1) (by decide),Qqn a h ho.2.2.2⟩
 |.two n a b,h,ho=>⟨fun e=>absurd (e▸ho.1) (by decide),Qqn a h.1 ho.2.2.2.1,Qqn b h.2 ho.2.2.2.2⟩
section
variable {lg:Int} {f:List Nd} {S:List Nat} {agents facts:Nat} {md:Md}
theorem Zzs(h:Ba lg f)(hF:Od lg ((Qp f).1.map Qh) (fun t=>t∈S) (th (Qp f).1))(zJ:∀u∈S,u < 2^(Qp f).1.length)
 (hm:Io lg (Qp f).1 S agents facts md)(hA:Ye (Jl (Qf f))=agents)(hFa:Ye (Yy (Qf f))=facts)(w:Fin md.n.toNat):
 (Gx md).sat (Qh f) w↔(Na f).getD (S.getD w.1 0) false=true:=by
 have uD:md.n.toNat=S.length:=by rw [hm.n];exact Int.toNat_natCast _
 have wP:md.rel.length=agents:=by rw [hm.rel];simp
 have WB:∀v:Fin md.n.toNat,v.1 < S.length:=fun v=>by have:=v.2;omega
 have rK:=Qs0 h.ck;rw [hA,hFa]at rK;have CM:(Vi (Qh f)).all (Nq agents facts):=Qjj _ rK;have ZD:=Rn h.b.closed _ h.b.cov h.x.xp.lang;have nO:=Qqn _ h.x.xp.fact h.x.xp.1.1
 let M:=Ri lg ((Qp f).1.map Qh) (fun t=>t∈S) (th (Qp f).1)
 let e:(Gx md).W->M.W:=fun v=>⟨S.getD v.1 0,Fa (WB v)⟩
 have AL:∀v:M.W,∃u,e u=v:=fun v=>by
  obtain⟨w,hw,e1⟩:=Qs1 v.2;exact⟨⟨w,by omega⟩,Subtype.ext e1⟩
 have hR:∀i:Int,0<=i/\i < agents->∀u v,(Gx md).R i u v↔M.R i (e u) (e v):=fun i hi u v=>by
  have dG:0<=i/\i < md.rel.length:=by omega
  show(if 0<=i/\i < md.rel.length then Oc (md.rel.getD i.toNat []) md.n.toNat u v else u=v)↔Mx lg ((Qp f).1.map Qh) i (th (Qp f).1 (S.getD u.1 0)) (th (Qp f).1 (S.getD v.1 0));rw [if_pos dG];unfold Oc;rw [hm.bit (by omega) (WB u),decide_eq_true (WB v),Bool.true_and,show((i.toNat:Nat):Int)=i by omega];exact Bm h.b (zJ _ (Fa (WB v)))
 have hV:∀n:Nd,n.op=3->Tr.leaf n∈(Qp f).1.map Qh->n=⟨3,n.i,0,0,0,0⟩->0<=n.i->∀u,(Gx md).V n.i u↔M.V n.i (e u):=fun n h3 hn zQ h0 u=>by
  obtain⟨i,hg,hi,sP⟩:=Bo h.b hn;show(md.val.getD n.i.toNat 0).testBit u.1=true↔th (Qp f).1 (S.getD u.1 0) (.leaf ⟨3,n.i,0,0,0,0⟩)=true;rw [<-zQ,sP];have nQ:(Qp f).1.getD i []= [n]:=by
   rw [Qk,hg];rfl
  have:=hm.fact i n.i.toNat hi (by rw [nQ];exact h3) (by rw [nQ,show((n.i.toNat:Nat):Int)=n.i by omega];rfl) u.1 (WB u);rw [this]
 have CA:(Vi (Qh f)).all (Zjm (M:=M) e):=by
  refine Iv (P:=Nq agents facts) (Q:=fun n=>(n.op=3->Tr.leaf n∈(Qp f).1.map Qh)/\(n.op=3->n=⟨3,n.i,0,0,0,0⟩)) (fun n h1 h2=>⟨fun ho=>hR n.i (h1.agent ho),fun _ i _ hg=>hR i ⟨by omega,by have:=h1.group i hg;omega⟩,fun h3=>hV n h3 (h2.1 h3) (h2.2 h3) (h1.fact h3).1⟩) _ CM (Iv (fun _ h1 h2=>⟨h1,h2⟩) _ ZD nO)
 refine(Ej (M:=Gx md) (Qh f) w).symm.trans ((Qy3 e AL _ CA w).trans ((Og h.b.closed hF _ h.b.cov h.x.xp.lang h.x.xp.fact (e w)).symm.trans ?_));rw [Qkt h (zJ _ (Fa (WB w)))]
end
theorem Qmw {n:Nd}(h:Wq n.op) {i:Nat}(hi:(Vn n.op).toNat.testBit i=true):(15:Nat).testBit i=true:=by
 have hc:n.op=1\/n.op=2\/n.op=3\/n.op=4\/n.op=5\/n.op=6\/n.op=7\/n.op=8\/n.op=9\/n.op=10\/n.op=11\/n.op=13:=by unfold Wq at h;omega
 have zJ:(Vn n.op).toNat < 2^4/\Jr (Vn n.op).toNat 15=true:=by
  rcases hc with e|e|e|e|e|e|e|e|e|e|e|e <;>(rw [e];exact⟨by decide,by decide⟩)
 exact Je.1 zJ.2 i hi
theorem Zqg {f:List Nd} {md:Md}(hc:check f=0)(hl:Nf f=false)(zU:Qa md=0)(hA:Ye (Jl (Qf f))=md.rel.length)(hF:Ye (Yy (Qf f))=md.val.length):Jz md (Qf f)=0:=by
 have wN:check (Qf f)=0:=(Gv hc);have h2:=Ul hc;have hs:Jr (Jp (Qf f)) 15=true:=by
  rw [Je];intro i hi;unfold Jp Kv at hi;rw [h2]at hi;rcases Qv9 _ _ _ hi with h|⟨n,hn,h⟩
  ·rw [Nat.zero_testBit]at h;cases h
  exact Qmw (Em hc hl n hn) h
 have hf:Yl (Qf f) md.rel.length md.val.length=true:=by
  unfold Yl;rw [Bool.and_eq_true,Bool.and_eq_true,List.all_eq_true,List.all_eq_true,h2];refine⟨by rw [wN];rfl,fun i _=> ?_,fun i _=> ?_⟩
  ·unfold Xx;rw [Bool.or_eq_true,decide_eq_true_iff];cases hb:(Jl (Qf f)).testBit i
   ·exact Or.inl rfl
   exact Or.inr (by rw [<-hA];exact Kf (Am _) hb)
  unfold Xx;rw [Bool.or_eq_true,decide_eq_true_iff];cases hb:(Yy (Qf f)).testBit i
  ·exact Or.inl rfl
  exact Or.inr (by rw [<-hF];exact Kf (Am _) hb)
 unfold Jz;rw [if_neg (by rw [zU];simp),if_neg (by rw [wN];simp),if_neg (by rw [hs];simp),if_neg (by rw [hf];simp)]
end Go.Proofs.YtkmclcmnoicagaaGreatDoor
