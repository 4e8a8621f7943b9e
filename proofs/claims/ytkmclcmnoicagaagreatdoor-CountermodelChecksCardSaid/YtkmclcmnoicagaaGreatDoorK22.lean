/- Agents and facts of a formula's expansion and base are among the formula's (plain). -/
import Derived.Test.YtkmclcmnoicagaaGreatDoorK21
namespace Go.Proofs.YtkmclcmnoicagaaGreatDoor
set_option maxRecDepth 100000
set_option maxHeartbeats 128000000
structure InB (A F:Nat) (n:Nd):Prop where
 agent:n.op=9\/n.op=10->0<=n.i/\n.i < A
 group:∀i:Nat,Vy n.g i=true->i < A
 fact:n.op=3->0<=n.i/\n.i < F
section
variable {A F:Nat}
theorem InB.with {n:Nd}(h:InB A F n)(k1 k2:Nat):InB A F (n.with_ k1 k2):=⟨h.agent,h.group,h.fact⟩
theorem Si {op:Int}(h:op=1\/op=4\/op=5\/op=7):InB A F ⟨op,0,0,0,0,0⟩:=
 ⟨fun e=>by have:op=9\/op=10:=e;omega,fun i hi=>by unfold Vy at hi;simp at hi,fun e=>by have:op=3:=e;omega⟩
theorem Qy8 {i:Int}(h:0<=i/\i < A):InB A F ⟨9,i,0,0,0,0⟩:=
 ⟨fun _=>h,fun i hi=>by unfold Vy at hi;simp at hi,fun e=>by have:(9:Int)=3:=e;omega⟩
theorem Qrs:∀(r:List Tr) (t:Tr),t.all (InB A F)->(∀u∈r,u.all (InB A F))->(Pj t r).all (InB A F)
 |[],_,ht,_=>ht
 |u :: r,t,ht,hr=>Qrs r _ ⟨Si (by omega),ht,hr u (List.mem_cons_self ..)⟩ (fun v hv=>hr v (List.mem_cons_of_mem _ hv))
theorem Zzf:∀(l:List Tr),(∀u∈l,u.all (InB A F))->(Mo l).all (InB A F)
 |[],_=>Si (by omega)
 |t :: r,h=>Qrs r t (h t (List.mem_cons_self ..)) (fun v hv=>h v (List.mem_cons_of_mem _ hv))
theorem Qqp:∀(t:Tr),t.all (InB A F)->(Va t).all (InB A F)
 |.leaf _,h=>h
 |.one n a,h=>by
  have ih:=Qqp a h.2;unfold Va;by_cases xQ:n.op=10
  ·rw [if_pos xQ];exact⟨Si (by omega),Qy8 (h.1.agent (.inr xQ)),Si (by omega),ih⟩
  rw [if_neg xQ];by_cases uR:n.op=11
  ·rw [if_pos uR];refine Zzf _ fun u hu=> ?_
   obtain⟨i,hi,rfl⟩:=List.mem_map.1 hu;obtain⟨_,h2⟩:=List.mem_filter.1 hi;have:=h.1.group i h2;exact⟨Qy8 ⟨by omega,by omega⟩,ih⟩
  rw [if_neg uR];exact⟨h.1,ih⟩
 |.two n a b,h=>⟨h.1,Qqp a h.2.1,Qqp b h.2.2⟩
theorem Zqb {i:Nat} {n:Nd} {a b:Tr}(h:(Tr.two n a b).all (InB A F))(hg:Vy n.g i=true):(Gb i n a b).all (InB A F):=by
 have:=h.1.group i hg;exact⟨Qy8 ⟨by omega,by omega⟩,Si (by omega),h.2.1,Si (by omega),h.2.2,h⟩
theorem Qwp {t:Tr}(ht:t.ok)(h:t.all (InB A F)) {k:Nat}(hk:k < (Qn t).length):(tr (Qn t) k).all (InB A F):=
 Hq (P:=InB A F) (fun _ k1 k2 h=>h.with k1 k2) (Wi ht) (Tq (P:=InB A F) (fun _ k1 k2 h=>h.with k1 k2) t [] h (fun n hn=>by cases hn)) k hk
theorem Qoy {t:Tr}(h:Xf t)(he:(Kc (Qn t)).2=0)(sB:t.all (InB A F)):∀s∈(Kc (Qn t)).1.map Qe,s.all (InB A F):=by
 have hB:=Qrt h he;intro s hs;obtain⟨hX,hc⟩:=(Vj hB.can).1 hs;unfold Kc at he hc;cases hb:((Ye (Qn t)).flatMap Vw).any (fun u=>decide (u.length=0))||decide (12 < (((Ye (Qn t)).flatMap Vw).foldl Gm (Ye (Qn t))).length)
 case true=>rw [hb]at he;cases he
 rw [hb,cond_false]at hc;rcases(Ob _ _ _).1 hc with h1|h1
 ·obtain⟨k,hk,e,_⟩:=h.mem_base0.1 h1;rw [(hX.inj (h.at hk) e)];exact Qwp h.xp.1.1 sB hk
 obtain⟨c,sF,rX⟩:=List.mem_flatMap.1 h1;obtain⟨k,hk,rfl,_⟩:=h.mem_base0.1 sF;have hx:=h.at hk;have NC:=Qwp h.xp.1.1 sB hk;by_cases ho:(tr (Qn t) k).top.op=13
 ·obtain⟨n,a,b,e,iE⟩:=Wl hx ho;rw [e]at hx rX NC;obtain⟨i,hi,hg,e2⟩:=(Ic hx iE).1 rX;have zH:(Qn (Gb i n a b)).length<=200:=by
   by_cases e3:(Qn (Gb i n a b)).length<=200
   ·exact e3
   rw [Xa (by omega)]at e2;have hp:=Uv hX.xp.1.1;rw [e2]at hp;simp at hp
  have E6:Xf (Gb i n a b):=⟨hx.xp.unf hi,zH⟩;rw [hX.inj E6 (by rw [e2,Gt zH])];exact Zqb NC hg
 rw [Po hx ho]at rX;cases rX
end
theorem Cj(m:Nat):m < 2^Ya m:=by
 unfold Ya
 split
 ·rename_i h;rw [h];decide
 exact Nat.lt_log2_self
theorem Qjx {m k:Nat}(h:m < 2^k):Ya m<=k:=by
 unfold Ya
 split
 ·omega
 rename_i h0;have:=(Nat.log2_lt h0).2 h;omega
theorem Qro {f:List Nd}(hc:check f=0):(Qe f).all (InB (Ya (Jr (Qg f))) (Ya (Yy (Qg f)))):=by
 obtain⟨hw,_,hp,hh⟩:=Jf hc;have h:=Hq (P:=InB (Ya (Jr (Qg f))) (Ya (Yy (Qg f)))) (fun _ k1 k2 h=>h.with k1 k2) hw (fun n hn=> ?_) ((Qg f).length - 1) (by omega)
 ·rw [show tr (Qg f) ((Qg f).length - 1)=Qe f from Ki hc]at h;exact h
 have vR:=hh n hn;have ha:=fun i hi=>Ka (Cj (Jr (Qg f))) ((Qv8 (Qg f) 0).2 n hn i hi)
 have hf:=fun i hi=>Ka (Cj (Yy (Qg f))) ((Qkf (Qg f) 0).2 n hn i hi)
 refine⟨fun ho=> ?_,fun i hi=>ha i (.inr hi),fun ho=> ?_⟩
 ·have h1:Qo n.op=true:=by rcases ho with h|h <;>(rw [h];rfl)
  have h2:=Kw vR h1;have:=ha n.i.toNat (.inl ⟨h1,rfl⟩);exact⟨h2.1,by omega⟩
 have h2:=Fm vR ho;have:=hf n.i.toNat ⟨ho,rfl⟩;exact⟨h2.1,by omega⟩
theorem Qme {lg:Int} {f:List Nd}(h:By lg f)(he:Yj lg f=0):∀s∈(Qm f).1.map Qe,s.all (InB (Ya (Jr (Qg f))) (Ya (Yy (Qg f)))):=by
 have h4:Qm f=Kc (Qn (Va (Qe f))):=by
  unfold Yj at he;cases ha:decide (lg < 0)||decide (6 < lg)
  ·rw [ha]at he;rw [<-h.e];exact(Py he).2.2.2
  rw [ha]at he;cases he
 have h5:(Kc (Qn (Va (Qe f)))).2=0:=by
  rw [<-h4];unfold Yj at he;cases ha:decide (lg < 0)||decide (6 < lg)
  ·rw [ha]at he;exact he
  rw [ha]at he;cases he
 rw [h4];exact Qoy h.x h5 (Qqp _ (Qro h.ck))
def Kj(s:Nat)(ws:List Nat):Nat:=Vt ws.length fun i=>s.testBit (ws.getD i 0)
def Ji(md:Md)(ws:List Nat):Md:=⟨(ws.length:Int),md.val.map (fun s=>Kj s ws),md.rel.map fun r=>ws.map fun w=>Kj (r.getD w 0) ws⟩
theorem Qde(s:Nat)(ws:List Nat)(i:Nat):(Kj s ws).testBit i=(decide (i < ws.length)&&s.testBit (ws.getD i 0)):=Rz _ _ _
theorem Qsx(s:Nat)(ws:List Nat):Kj s ws < 2^ws.length:=Dh _ _
theorem Qqf {md:Md}(h1:1<=md.n)(h2:md.n<=64)(h3:md.rel.length<=4)(h4:md.val.length<=8)(h5:∀r∈md.rel,(r.length:Int)=md.n)
 (h6:∀s∈md.val,s < 2^md.n.toNat)(h7:∀r∈md.rel,∀s∈r,s < 2^md.n.toNat):Zq md=0:=by
 have hb:∀l:List Nat,(∀s∈l,s < 2^md.n.toNat)->Zb l md.n.toNat=false:=fun l hl=>by
  unfold Zb;rw [List.any_eq_false];intro s hs;rw [decide_eq_true (hl s hs)];decide
 unfold Zq;rw [if_neg (by omega),if_neg (by omega),if_neg,if_neg,if_neg]
 ·rw [Bool.not_eq_true,List.any_eq_false];intro r hr;rw [hb r (h7 r hr)];decide
 ·rw [hb _ h6];decide
 rw [Bool.not_eq_true,List.any_eq_false];intro r hr;rw [decide_eq_true (h5 r hr)];decide
theorem Oq {md:Md}(h:Zq md=0):(∀s∈md.val,s < 2^md.n.toNat)/\∀r∈md.rel,∀s∈r,s < 2^md.n.toNat:=by
 obtain⟨_,_,_,_,_,h1,h2⟩:=Zn h;have hb:∀l:List Nat,Zb l md.n.toNat=false->∀s∈l,s < 2^md.n.toNat:=fun l hl s hs=>by
  unfold Zb at hl;rw [List.any_eq_false]at hl;have:=hl s hs;rw [Bool.not_eq_true,Bool.not_eq_false']at this;exact of_decide_eq_true this
 exact⟨hb _ h1,fun r hr=>hb r (h2 r hr)⟩
theorem Qgq {md:Md} {ws:List Nat}(h:Zq md=0)(h1:1<=ws.length)(h2:ws.length<=64):Zq (Ji md ws)=0:=by
 obtain⟨_,_,h3,h4,_,_,_⟩:=Zn h;refine Qqf (show(1:Int)<=(ws.length:Int) by omega) (show(ws.length:Int)<=64 by omega) (by simp [Ji];exact h3) (by simp [Ji];exact h4) ?_ ?_ ?_
 ·intro r hr;obtain⟨r0,_,rfl⟩:=List.mem_map.1 hr;rw [List.length_map];rfl
 ·intro s hs;obtain⟨s0,_,rfl⟩:=List.mem_map.1 hs;exact Qsx _ _
 intro r hr s hs;obtain⟨r0,_,rfl⟩:=List.mem_map.1 hr;obtain⟨w,_,rfl⟩:=List.mem_map.1 hs;exact Qsx _ _
theorem Qq5 {md:Md}(h:Zq md=0):md.ok:=by
 obtain⟨h1,h2,_⟩:=Zn h;obtain⟨h3,h4⟩:=Oq h;have uP:2^md.n.toNat<=18446744073709551616:=Ng (by omega);exact⟨by unfold Vs;omega,fun s hs=>Qy (h3 s hs) uP,fun r hr s hs=>Qy (h4 r hr s hs) uP⟩
def Zq7(md:Md)(ws:List Nat):Prop:=∀a,a < md.rel.length->∀u∈ws,∀v,((md.rel.getD a []).getD u 0).testBit v=true->v∈ws
theorem Qoq {md:Md} {ws:List Nat}(_hlt:∀w∈ws,w < md.n.toNat)(yS:Zq7 md ws)(hg:∀i:Fin (Ji md ws).n.toNat,ws.getD i.1 0 < md.n.toNat):
 Emb (Gj (Ji md ws)) (Gj md) md.rel.length md.val.length (fun i:Fin (Ji md ws).n.toNat=>(⟨ws.getD i.1 0,hg i⟩:Fin md.n.toNat)) where
 fact:=fun i h0 h1 u=>by
  have hu:u.1 < ws.length:=u.2;show((md.val.map fun s=>Kj s ws).getD i.toNat 0).testBit u.1=true↔(md.val.getD i.toNat 0).testBit (ws.getD u.1 0)=true;rw [Qk,List.getElem?_map,List.getElem?_eq_getElem (show i.toNat < md.val.length by omega),Qk,List.getElem?_eq_getElem (show i.toNat < md.val.length by omega)];show(Kj _ ws).testBit u.1=true↔_;rw [Qde,decide_eq_true hu,Bool.true_and];rfl
 rel:=fun i h0 h1 u v=>by
  obtain⟨a,rfl⟩:=Int.eq_ofNat_of_zero_le h0;have ha:a < md.rel.length:=by omega
  have hu:u.1 < ws.length:=u.2;have hv:v.1 < ws.length:=v.2;refine(kmR (md:=Ji md ws) (show a < (Ji md ws).rel.length by simp [Ji];exact ha) u v).trans (Iff.trans ?_ (kmR ha (⟨ws.getD u.1 0,hg u⟩:Fin md.n.toNat) (⟨ws.getD v.1 0,hg v⟩:Fin md.n.toNat)).symm);show((((md.rel.map fun r=>ws.map fun w=>Kj (r.getD w 0) ws).getD a []).getD u.1 0).testBit v.1=true)↔((md.rel.getD a []).getD (ws.getD u.1 0) 0).testBit (ws.getD v.1 0)=true;have e1:(md.rel.map fun r=>ws.map fun w=>Kj (r.getD w 0) ws).getD a []=ws.map fun w=>Kj ((md.rel.getD a []).getD w 0) ws:=by
   rw [Qk,List.getElem?_map,Qv ha,Qk,Qv ha];rfl
  have e2:(ws.map fun w=>Kj ((md.rel.getD a []).getD w 0) ws).getD u.1 0=Kj ((md.rel.getD a []).getD (ws.getD u.1 0) 0) ws:=by
   rw [Qk,List.getElem?_map,Qv hu,Qk (l:=ws),Qv hu];rfl
  rw [e1,e2,Qde,decide_eq_true hv,Bool.true_and]
 cl:=fun i h0 h1 u y hy=>by
  obtain⟨a,rfl⟩:=Int.eq_ofNat_of_zero_le h0;have ha:a < md.rel.length:=by omega
  have hu:u.1 < ws.length:=u.2;have hm:y.1∈ws:=yS a ha (ws.getD u.1 0) (by rw [Qk,Qv hu];exact List.getElem_mem _) y.1 ((kmR ha _ _).1 hy);obtain⟨j,hj,e⟩:=List.getElem_of_mem hm;refine⟨⟨j,hj⟩,Fin.ext ?_⟩;show ws.getD j 0=y.1;rw [Qk,Qv hj];exact e
theorem Qrp {md:Md} {f:List Nd}(h:Zi md f=0):(Qe f).all (Qht md.rel.length md.val.length):=by
 obtain⟨zT,hc,hs,hf⟩:=Vr h;have h2:=Ud hc;have wN:=Xi hc;have xP:Js (Jm (Qg f)) 15=true:=by unfold Jm at hs⊢;rw [h2];exact hs
 have rJ:Yc (Qg f) md.rel.length md.val.length=true:=by
  unfold Yc at hf⊢;rw [h2,wN];rw [hc]at hf;exact hf
 rw [<-Ki hc];refine Hq (P:=Qht md.rel.length md.val.length) (fun n k1 k2 h=>h) (Ym wN) (fun n hn=> ?_) _ (by have:=(Jg wN).1;omega);obtain⟨k,hk⟩:=List.mem_iff_getElem?.1 hn;have wO:=(List.getElem?_eq_some_iff.1 hk).1;have hr:=(Zn zT).2.2.1;have hN:=Qkr wN hk (Qy0 wN h2 xP rJ wO) hr;refine⟨fun h3=>⟨(Fm hN.head h3).1,hN.fact h3⟩,fun h9=>⟨(Kw hN.head (by unfold Qo;rcases h9 with e|e <;> rw [e] <;> rfl)).1,hN.agent h9⟩,fun uR=> ?_⟩;have hg:=hN.group (by omega);refine⟨fun j hj=>Ka hg.2 hj,?_⟩;obtain⟨j,hj⟩:=Nat.exists_testBit_of_ne_zero (show n.g.toNat≠0 by omega)
 have:=Ka hg.2 hj;exact⟨j,by omega,hj⟩
theorem Qh0 {md md':Md} {f:List Nd}(h:Zi md f=0)(hc:Zq md'=0)(hr:md'.rel.length=md.rel.length)(hv:md'.val.length=md.val.length):Zi md' f=0:=by
 obtain⟨_,h1,h2,h3⟩:=Vr h;unfold Zi;rw [if_neg (by rw [hc];simp),if_neg (by rw [h1];simp),if_neg (by rw [h2];simp),hr,hv,if_neg (by rw [h3];simp)]
structure Uh (lg:Int) (f:List Nd) (md:Md) (k:Nat):Prop where
 ck:Zi md f=0
 lt:k < md.n.toNat
 good:Fd md lg
 sat:∀w:Fin md.n.toNat,w.1=k->(Gj md).sat (Qe f) w
noncomputable def cmN (lg:Int) (f:List Nd) (md:Md) (wd:Int):Int :=
 if lg < 0\/6 < lg then 1 else if Zi md f≠0 then Zi md f else if wd < 0\/md.n<=wd then 2 else if inG md lg=false then 12 else if(Nv md f).testBit wd.toNat=true then 0 else 11
theorem Wk {md:Md} {lg:Int} :inG md lg=true↔Fd md lg:=by
 refine⟨fun h=>(Qa0 h).2,fun h=> ?_⟩;unfold inG Qjj;rw [decide_eq_true h.ck,decide_eq_true h.lgr,Qdq.2 h.rel];rfl
theorem Dm {lg:Int} {f:List Nd} {md:Md} {wd:Int} :cmN lg f md wd=0↔∃k:Nat,wd=(k:Int)/\Uh lg f md k:=by
 unfold cmN;constructor
 ·intro h;by_cases h1:lg < 0\/6 < lg
  ·rw [if_pos h1]at h;cases h
  rw [if_neg h1]at h;by_cases h2:Zi md f≠0
  ·rw [if_pos h2]at h;exact absurd h h2
  rw [if_neg h2]at h;by_cases h3:wd < 0\/md.n<=wd
  ·rw [if_pos h3]at h;cases h
  rw [if_neg h3]at h;by_cases h4:inG md lg=false
  ·rw [if_pos h4]at h;cases h
  rw [if_neg h4]at h;by_cases h5:(Nv md f).testBit wd.toNat=true
  ·have Y5:Zi md f=0:=Decidable.not_not.1 h2;refine⟨wd.toNat,by omega,Y5,by omega,Wk.1 (by rw [Bool.not_eq_false]at h4;exact h4),fun w hw=> ?_⟩;exact(He Y5 w).1 (by rw [hw];exact h5)
  rw [if_neg h5]at h;cases h
 rintro⟨k,rfl,h⟩;have:=h.lt;have h2:=h.good.lgr;rw [if_neg (by omega),if_neg (by rw [h.ck];simp),if_neg (by omega),if_neg (by rw [Wk.2 h.good];simp),if_pos];exact(He h.ck ⟨k,h.lt⟩).2 (h.sat _ rfl)
theorem Uh.part {lg:Int} {f:List Nd} {md:Md} {k:Nat}(h:Uh lg f md k) {ws:List Nat}(zG:∀w∈ws,w < md.n.toNat)(yS:Zq7 md ws)(uP:ws.length<=64) {j:Nat}(hj:ws[j]?=some k):Uh lg f (Ji md ws) j:=by
 obtain⟨lX,hje⟩:=List.getElem?_eq_some_iff.1 hj;have hg:∀i:Fin (Ji md ws).n.toNat,ws.getD i.1 0 < md.n.toNat:=fun i=>by
  have hi:i.1 < ws.length:=i.2;refine zG _ ?_;rw [Qk,Qv hi];exact List.getElem_mem _
 have hE:=Qoq zG yS hg;have zT:=Qgq h.good.ck (by omega) uP;refine⟨Qh0 h.ck zT (by simp [Ji]) (by simp [Ji]),lX,?_,fun w hw=> ?_⟩
 ·refine(Om zT h.good.lgr).2 fun a ha=> ?_
  rw [show(Ji md ws).rel.length=md.rel.length by simp [Ji]]at ha;exact hE.frm (by omega) (by omega) ((Om h.good.ck h.good.lgr).1 h.good a ha)
 refine(hE.sat _ (Qrp h.ck) w).2 (h.sat _ ?_);show ws.getD w.1 0=k;rw [hw,Qk,hj];rfl
theorem Mf {a m b c:Nat}(ha:a < 256)(hm:m < 256):(a+256*b)&&&(m+256*c)=(a&&&m)+256*(b&&&c):=by
 have hs:∀{p q:Nat} (_:p < 256) (i:Nat),(p+256*q).testBit i=if i < 8 then p.testBit i else q.testBit (i - 8):=fun {p q} hp i=>by
  rw [Nat.add_comm,show(256:Nat)=2^8 from rfl,Nat.testBit_two_pow_mul_add _ hp]
 have hl:a&&&m < 256:=Nat.lt_of_le_of_lt Nat.and_le_left ha;refine Nat.eq_of_testBit_eq fun i=> ?_
 rw [Nat.testBit_and,hs ha,hs hm,hs hl];by_cases h:i < 8
 ·rw [if_pos h,if_pos h,if_pos h,Nat.testBit_and]
 rw [if_neg h,if_neg h,if_neg h,Nat.testBit_and]
def Rw(m:Nat):Nat->Nat
 |0=>0
 |k+1=>m+256*Rw m k
def st1(M x:Nat):Nat:=(x / 2&&&M)+(x&&&M)
def st2(M x:Nat):Nat:=(x / 4&&&M)+(x&&&M)
def st3(M x:Nat):Nat:=x / 16+x&&&M
def pc1(d:Nat):Nat:=(d / 2&&&85)+(d&&&85)
def pc2(d:Nat):Nat:=(d / 4&&&51)+(d&&&51)
def pc3(d:Nat):Nat:=d / 16+d&&&15
def pcB(d:Nat):Nat:=pc3 (pc2 (pc1 d))
theorem Zyq:∀d:Fin 256,∀c:Fin 2,(d.1 / 2+128*c.1)&&&85=(d.1 / 2&&&85):=by decide+kernel
theorem Zyz:∀d:Fin 256,∀c:Fin 4,(d.1 / 4+64*c.1)&&&51=(d.1 / 4&&&51):=by decide+kernel
theorem Qs6:∀d:Fin 256,pc1 d.1 < 256/\pc2 (pc1 d.1) % 16<=4/\pc2 (pc1 d.1)<=68/\pcB d.1<=8/\pcB d.1=(List.range 8).countP fun i=>d.1.testBit i:=by decide+kernel
theorem Zyj:∀d:Fin 69,∀c:Fin 5,(d.1 / 16+16*c.1+d.1)&&&15=pc3 d.1:=by decide+kernel
theorem Qc9 {d y M:Nat}(hd:d < 256):st1 (85+256*M) (d+256*y)=pc1 d+256*st1 M y:=by
 unfold st1 pc1;have e:(d+256*y) / 2=(d / 2+128*(y % 2))+256*(y / 2):=by omega
 have h1:=Zyq ⟨d,hd⟩ ⟨y % 2,Nat.mod_lt _ (by decide)⟩;rw [e,Mf (by omega) (by decide),Mf hd (by decide),show(d / 2+128*(y % 2))&&&85=_ from h1,Nat.mul_add];exact Nat.add_add_add_comm _ _ _ _
theorem Qhq {d y M:Nat}(hd:d < 256):st2 (51+256*M) (d+256*y)=pc2 d+256*st2 M y:=by
 unfold st2 pc2;have e:(d+256*y) / 4=(d / 4+64*(y % 4))+256*(y / 4):=by omega
 have h1:=Zyz ⟨d,hd⟩ ⟨y % 4,Nat.mod_lt _ (by decide)⟩;rw [e,Mf (by omega) (by decide),Mf hd (by decide),show(d / 4+64*(y % 4))&&&51=_ from h1,Nat.mul_add];exact Nat.add_add_add_comm _ _ _ _
theorem Qhz {d y M:Nat}(hd:d<=68)(hy:y % 16<=4):st3 (15+256*M) (d+256*y)=pc3 d+256*st3 M y:=by
 unfold st3;have e:(d+256*y) / 16+(d+256*y)=(d / 16+16*(y % 16)+d)+256*(y / 16+y):=by omega
 have h1:=Zyj ⟨d,by omega⟩ ⟨y % 16,by omega⟩;rw [e,Mf (by omega) (by decide),show(d / 16+16*(y % 16)+d)&&&15=_ from h1]
def Qlo:Nat->Nat->Nat
 |0,_=>0
 |k+1,x=>pcB (x % 256)+256*Qlo k (x / 256)
theorem Yl:∀(k x:Nat),x < 256^k->st2 (Rw 51 k) (st1 (Rw 85 k) x) % 16<=4/\st3 (Rw 15 k) (st2 (Rw 51 k) (st1 (Rw 85 k) x))=Qlo k x
 |0,x,h=>by
  have:x=0:=by simpa using h
  subst this;decide
 |k+1,x,h=>by
  have hd:x % 256 < 256:=Nat.mod_lt _ (by decide);have hx:x / 256 < 256^k:=by rw [Nat.div_lt_iff_lt_mul (by decide),<-Nat.pow_succ];exact h
  obtain⟨ih1,ih2⟩:=Yl k (x / 256) hx;obtain⟨b1,b2,b3,_,_⟩:=Qs6 ⟨x % 256,hd⟩;have e:x=x % 256+256*(x / 256):=by omega
  have e1:st1 (Rw 85 (k+1)) x=pc1 (x % 256)+256*st1 (Rw 85 k) (x / 256):=by
   conv=>lhs;rw [e]
   exact Qc9 hd
  have e2:st2 (Rw 51 (k+1)) (st1 (Rw 85 (k+1)) x)=pc2 (pc1 (x % 256))+256*st2 (Rw 51 k) (st1 (Rw 85 k) (x / 256)):=by
   rw [e1];exact Qhq b1
  rw [e2];refine⟨by show(pc2 (pc1 (x % 256))+_) % 16<=4;have b2':pc2 (pc1 (x % 256)) % 16<=4:=b2;omega,?_⟩;show st3 (15+256*Rw 15 k) _=pc3 (pc2 (pc1 (x % 256)))+256*Qlo k (x / 256);rw [Qhz b3 ih1,ih2]
def Gz(s k:Nat):Nat:=(List.range k).countP fun i=>s.testBit i
theorem Nt(k x:Nat):Gz x (8*(k+1))=pcB (x % 256)+Gz (x / 256) (8*k):=by
 obtain⟨_,_,_,_,b5⟩:=Qs6 ⟨x % 256,Nat.mod_lt _ (by decide)⟩;have b5':pcB (x % 256)=(List.range 8).countP fun i=>(x % 256).testBit i:=b5
 unfold Gz;rw [b5',show 8*(k+1)=8+8*k by omega,List.range_add,List.countP_append,List.countP_map]
 congr 1
 ·refine List.countP_congr fun i hi=> ?_
  have S8:=List.mem_range.1 hi;rw [show(256:Nat)=2^8 from rfl,Nat.testBit_mod_two_pow,decide_eq_true S8,Bool.true_and]
 refine List.countP_congr fun i _=> ?_
 show x.testBit (8+i)=true↔(x / 256).testBit i=true;rw [show(256:Nat)=2^8 from rfl,Nat.testBit_div_two_pow,Nat.add_comm]
theorem Ml(d:Nat):pcB (d % 256)<=8:=(Qs6 ⟨d % 256,Nat.mod_lt _ (by decide)⟩).2.2.2.1
def st4(x:Nat):Nat:=x+x / 256
def st5(x:Nat):Nat:=x+x / 65536
def st6(x:Nat):Nat:=x+x / 4294967296
theorem Zvz {p r:Nat}(hp:p < 256):(p+256*r) / 256=r:=by omega
theorem Zvj {p q r:Nat}(hp:p < 256)(hq:q < 256):(p+256*(q+256*r)) / 65536=r:=by omega
theorem Zvy {p q s t r:Nat}(hp:p < 256)(hq:q < 256)(hs:s < 256)(ht:t < 256):(p+256*(q+256*(s+256*(t+256*r)))) / 4294967296=r:=by omega
theorem Zvv {p q r s:Nat}(hp:p+q < 128):(p+256*r+(q+256*s)) % 128=p+q:=by omega
theorem Zvb {a b c d e f g h:Nat}(ha:a<=8)(hb:b<=8)(hc:c<=8)(hd:d<=8)(he:e<=8)(hf:f<=8)(hg:g<=8)(hh:h<=8):
 st6 (st5 (st4 (a+256*(b+256*(c+256*(d+256*(e+256*(f+256*(g+256*h))))))))) % 128=a+b+c+d+e+f+g+h:=by
 have e4:st4 (a+256*(b+256*(c+256*(d+256*(e+256*(f+256*(g+256*h)))))))=
  (a+b)+256*((b+c)+256*((c+d)+256*((d+e)+256*((e+f)+256*((f+g)+256*((g+h)+256*h)))))):=by
  unfold st4;rw [Zvz (by omega)];omega
 have e5:st5 ((a+b)+256*((b+c)+256*((c+d)+256*((d+e)+256*((e+f)+256*((f+g)+256*((g+h)+256*h)))))))=
  (a+b+(c+d))+256*((b+c+(d+e))+256*((c+d+(e+f))+256*((d+e+(f+g))+256*((e+f+(g+h))+256*((f+g+h)+256*((g+h)+256*h)))))):=by
  unfold st5;rw [Zvj (by omega) (by omega)];omega
 rw [e4,e5];unfold st6;rw [Zvy (by omega) (by omega) (by omega) (by omega),Zvv (by omega)];omega
theorem Qim {x:Nat}(hx:x < 18446744073709551616):
 st6 (st5 (st4 (st3 (Rw 15 8) (st2 (Rw 51 8) (st1 (Rw 85 8) x))))) % 128=Gz x 64:=by
 have h8:x < 256^8:=hx;rw [(Yl 8 x h8).2];have e:=(Zvb (Ml x) (Ml (x / 256)) (Ml (x / 256 / 256)) (Ml (x / 256 / 256 / 256)) (Ml (x / 256 / 256 / 256 / 256)) (Ml (x / 256 / 256 / 256 / 256 / 256)) (Ml (x / 256 / 256 / 256 / 256 / 256 / 256)) (Ml (x / 256 / 256 / 256 / 256 / 256 / 256 / 256)));have hs:Qlo 8 x=pcB (x % 256)+256*(pcB (x / 256 % 256)+256*(pcB (x / 256 / 256 % 256)+256*(pcB (x / 256 / 256 / 256 % 256)+256*(pcB (x / 256 / 256 / 256 / 256 % 256)+256*(pcB (x / 256 / 256 / 256 / 256 / 256 % 256)+256*(pcB (x / 256 / 256 / 256 / 256 / 256 / 256 % 256)+256*pcB (x / 256 / 256 / 256 / 256 / 256 / 256 / 256 % 256))))))):=rfl
 rw [hs,e];have c0:∀y:Nat,Gz y (8*0)=0:=fun y=>rfl
 rw [show(64:Nat)=8*8 from rfl,Nt 7,Nt 6,Nt 5,Nt 4,Nt 3,Nt 2,Nt 1,Nt 0,c0];omega
theorem Qbt(s k:Nat):Gz s (k+1)=Gz s k+if s.testBit k=true then 1 else 0:=by
 unfold Gz;rw [List.range_succ,List.countP_append,List.countP_singleton]
theorem Qbo {p:Nat->Bool} :∀(n k:Nat),k < n->p k=true->((List.range n).filter p)[(List.range k).countP p]?=some k:=by
 intro n k hk hp;have e:List.range n=List.range k++k :: List.range' (k+1) (n - k - 1):=by
  have h1:List.range n=List.range' 0 k++List.range' k (n - k):=by
   rw [List.range_eq_range'];have:=List.range'_append (s:=0) (m:=k) (n:=n - k) (step:=1);rw [Nat.zero_add,Nat.one_mul,show k+(n - k)=n by omega]at this;exact this.symm
  rw [h1,<-List.range_eq_range',show n - k=(n - k - 1)+1 by omega,List.range'_succ];rfl
 rw [e,List.filter_append,List.countP_eq_length_filter,List.getElem?_append_right (Nat.le_refl _),Nat.sub_self,List.filter_cons,if_pos hp];rfl
theorem Qc1 {s w:Nat}(hw:w < 64)(hs:s.testBit w=true):(Jy s)[Gz s w]?=some w:=Qbo 64 w hw hs
theorem Qos {s w:Nat}(hw:w<=64):Gz (s&&&(2^w - 1)) 64=Gz s w:=by
 unfold Gz;rw [show(64:Nat)=w+(64 - w) by omega,List.range_add,List.countP_append,List.countP_map];have h2:List.countP ((fun i=>(s&&&(2^w - 1)).testBit i) ∘ fun x=>w+x) (List.range (64 - w))=0:=by
  rw [List.countP_eq_zero];intro i _;show ¬(s&&&(2^w - 1)).testBit (w+i)=true;rw [Nat.testBit_and,Nat.testBit_two_pow_sub_one,decide_eq_false (by omega),Bool.and_false];simp
 rw [h2,Nat.add_zero];refine List.countP_congr fun i hi=> ?_
 rw [Nat.testBit_and,Nat.testBit_two_pow_sub_one,decide_eq_true (List.mem_range.1 hi),Bool.and_true]
structure Mh (md:Md) (fr out:Nat):Prop where
 sub:∀i,fr.testBit i=true->out.testBit i=true
 cl:∀a,a < md.rel.length->∀u,out.testBit u=true->∀v,((md.rel.getD a []).getD u 0).testBit v=true->out.testBit v=true
 least:∀c:Nat->Prop,(∀i,fr.testBit i=true->c i)->(∀a,a < md.rel.length->∀u,c u->∀v,((md.rel.getD a []).getD u 0).testBit v=true->c v)->∀i,out.testBit i=true->c i
theorem Mh.uniq {md:Md} {fr o1 o2:Nat}(h1:Mh md fr o1)(h2:Mh md fr o2):o1=o2:=by
 refine Nat.eq_of_testBit_eq fun i=> ?_
 have a:=h1.least (fun i=>o2.testBit i=true) h2.sub h2.cl i;have b:=h2.least (fun i=>o1.testBit i=true) h1.sub h1.cl i;cases e1:o1.testBit i <;> cases e2:o2.testBit i
 ·rfl
 ·rw [b e2]at e1;cases e1
 ·rw [a e1]at e2;cases e2
 rfl
structure Mc (md:Md) (fr todo out:Nat):Prop where
 sub:∀i,fr.testBit i=true->out.testBit i=true
 tod:∀i,todo.testBit i=true->out.testBit i=true
 cl:∀a,a < md.rel.length->∀u,out.testBit u=true->todo.testBit u=false->∀v,((md.rel.getD a []).getD u 0).testBit v=true->out.testBit v=true
 least:∀c:Nat->Prop,(∀i,fr.testBit i=true->c i)->(∀a,a < md.rel.length->∀u,c u->∀v,((md.rel.getD a []).getD u 0).testBit v=true->c v)->∀i,out.testBit i=true->c i
theorem Mc.start(md:Md)(fr:Nat):Mc md fr fr fr:=⟨fun _ h=>h,fun _ h=>h,fun _ _ u h1 h2=>(by rw [h1]at h2;cases h2),fun _ h _=>h⟩
theorem Mc.done {md:Md} {fr out:Nat}(h:Mc md fr 0 out):Mh md fr out:=⟨h.sub,fun a ha u hu=>h.cl a ha u hu (Nat.zero_testBit u),h.least⟩
structure Qyn (md:Md) (fr w k todo out:Nat):Prop where
 sub:∀i,fr.testBit i=true->out.testBit i=true
 tod:∀i,todo.testBit i=true->out.testBit i=true
 here:out.testBit w=true
 cl:∀a,a < md.rel.length->∀u,u≠w->out.testBit u=true->todo.testBit u=false->∀v,((md.rel.getD a []).getD u 0).testBit v=true->out.testBit v=true
 seen:∀a,a < k->∀v,((md.rel.getD a []).getD w 0).testBit v=true->out.testBit v=true
 least:∀c:Nat->Prop,(∀i,fr.testBit i=true->c i)->(∀a,a < md.rel.length->∀u,c u->∀v,((md.rel.getD a []).getD u 0).testBit v=true->c v)->∀i,out.testBit i=true->c i
theorem Mc.enter {md:Md} {fr todo out:Nat}(h:Mc md fr todo out)(hw:Qp todo)(h0:todo≠0):Qyn md fr (Be todo) 0 (todo&&&(todo - 1)) out:=by
 obtain⟨_,h1,h2⟩:=Cn hw h0;have hb:=Nn h1 h2;refine⟨h.sub,fun i hi=>h.tod i ?_,h.tod _ h1,fun a ha u hu LX cH=>h.cl a ha u LX ?_,fun a ha=>absurd ha (by omega),h.least⟩
 ·rw [hb i,Bool.and_eq_true]at hi;exact hi.1
 rw [hb u,decide_eq_false hu]at cH;simpa using cH
theorem Qyn.step {md:Md} {fr w k todo out:Nat}(h:Qyn md fr w k todo out)(hk:k < md.rel.length):
 Qyn md fr w (k+1) (todo|||Jv ((md.rel.getD k []).getD w 0) out) (out|||(md.rel.getD k []).getD w 0):=by
 refine⟨fun i hi=> ?_,fun i hi=> ?_,?_,fun a ha u hu LX cH v hv=> ?_,fun a ha v hv=> ?_,fun c h1 h2 i hi=> ?_⟩
 ·rw [Nat.testBit_or,h.sub i hi,Bool.true_or]
 ·rw [Nat.testBit_or,Bool.or_eq_true,Gn,Bool.and_eq_true]at hi;rw [Nat.testBit_or,Bool.or_eq_true];rcases hi with hi|hi
  ·exact Or.inl (h.tod i hi)
  exact Or.inr hi.1
 ·rw [Nat.testBit_or,h.here,Bool.true_or]
 ·rw [Nat.testBit_or,Bool.or_eq_false_iff,Gn]at cH;rw [Nat.testBit_or,Bool.or_eq_true]at LX;rw [Nat.testBit_or,Bool.or_eq_true];refine Or.inl ?_;cases ho:out.testBit u
  ·rw [ho]at LX cH;have h3:=LX.resolve_left (by simp);rw [h3]at cH;simp at cH
  exact h.cl a ha u hu ho cH.1 v hv
 ·rw [Nat.testBit_or,Bool.or_eq_true];by_cases e:a=k
  ·rw [<-e];exact Or.inr hv
  exact Or.inl (h.seen a (by omega) v hv)
 rw [Nat.testBit_or,Bool.or_eq_true]at hi;rcases hi with hi|hi
 ·exact h.least c h1 h2 i hi
 exact h2 k hk w (h.least c h1 h2 w h.here) i hi
theorem Qyn.leave {md:Md} {fr w todo out:Nat}(h:Qyn md fr w md.rel.length todo out):Mc md fr todo out:=by
 refine⟨h.sub,h.tod,fun a ha u hu cH v hv=> ?_,h.least⟩;by_cases e:u=w
 ·rw [e]at hv;exact h.seen a ha v hv
 exact h.cl a ha u e hu cH v hv
def Ot(todo out:Nat):Nat:=((List.range 64).map fun i=>if out.testBit i=true then(if todo.testBit i=true then 1 else 0)else 2).sum
theorem Qd5 {f g:Nat->Nat} :∀(l:List Nat),(∀i∈l,f i<=g i)->(l.map f).sum<=(l.map g).sum
 |[],_=>Nat.le_refl _
 |a :: l,h=>by
  have h1:=Qd5 l (fun i hi=>h i (List.mem_cons_of_mem _ hi));have h2:=h a (List.mem_cons_self ..);simp only [List.map_cons,List.sum_cons];omega
theorem Qhv {f g:Nat->Nat} :∀(l:List Nat),(∀i∈l,f i<=g i)->(∃i∈l,f i < g i)->(l.map f).sum < (l.map g).sum
 |[],_,⟨i,hi,_⟩=>by cases hi
 |a :: l,h,⟨i,hi,zG⟩=>by
  have h1:=Qd5 l (fun i hi=>h i (List.mem_cons_of_mem _ hi));have h2:=h a (List.mem_cons_self ..);simp only [List.map_cons,List.sum_cons];rcases List.mem_cons.1 hi with rfl|hi
  ·omega
  have h3:=Qhv l (fun i hi=>h i (List.mem_cons_of_mem _ hi)) ⟨i,hi,zG⟩;omega
theorem Qpj {todo out:Nat}(hw:Qp todo)(h0:todo≠0)(hs:∀i,todo.testBit i=true->out.testBit i=true):Ot (todo&&&(todo - 1)) out < Ot todo out:=by
 obtain⟨uP,h1,h2⟩:=Cn hw h0;have hb:=Nn h1 h2;refine Qhv _ (fun i _=> ?_) ⟨Be todo,List.mem_range.2 uP,?_⟩
 ·rw [hb i];cases out.testBit i <;> cases todo.testBit i <;> cases decide (i=Be todo) <;> simp
 rw [hb,h1,hs _ h1];simp
theorem Qan {todo out r:Nat} :Ot (todo|||Jv r out) (out|||r)<=Ot todo out:=by
 refine Qd5 _ fun i _=> ?_
 rw [Nat.testBit_or,Nat.testBit_or,Gn];cases out.testBit i <;> cases todo.testBit i <;> cases r.testBit i <;> simp
def Nj(md:Md)(w:Nat):Md:=Ji md (Jy (Jv (Zs md.n.toNat) (2^w)))
def Xt(k w:Nat):Nat:=if w < k then k - 1 else k
theorem Oy(n w i:Nat):(Jv (Zs n) (2^w)).testBit i=(decide (i < n)&& !decide (w=i)):=by
 rw [Gn,Kf,Nat.testBit_two_pow]
theorem Qba(n w:Nat):∀k,k<=n->Gz (Jv (Zs n) (2^w)) k=if w < k then k - 1 else k
 |0,_=>by simp [Gz]
 |k+1,h=>by
  rw [Qbt,Qba n w k (by omega),Oy,decide_eq_true (show k < n by omega),Bool.true_and];by_cases e:w=k
  ·rw [decide_eq_true e,if_neg (by omega),if_neg (by simp),if_pos (by omega)];omega
  rw [decide_eq_false e,if_pos (show(!false)=true from rfl)];by_cases h2:w < k
  ·rw [if_pos h2,if_pos (by omega)];omega
  rw [if_neg h2,if_neg (by omega)]
theorem Qxo(s:Nat):(Jy s).length=Gz s 64:=by
 unfold Jy Gz;rw [List.countP_eq_length_filter]
theorem Qyc {s n:Nat}(hs:s < 2^n):∀k,n<=k->Gz s k=Gz s n
 |0,h=>by rw [show n=0 by omega]
 |k+1,h=>by
  by_cases e:n=k+1
  ·rw [e]
  have hb:s.testBit k=false:=Nat.testBit_lt_two_pow (Qy hs (Nat.pow_le_pow_right (by decide) (by omega)));rw [Qbt,Qyc hs k (by omega),hb,if_neg (by simp),Nat.add_zero]
theorem Qh8(n w:Nat):Jv (Zs n) (2^w) < 2^n:=Nat.lt_pow_two_of_testBit _ fun i hi=>by
 rw [Oy,decide_eq_false (by omega),Bool.false_and]
theorem Qye {n w:Nat}(hn:n<=64)(hw:w < n):(Jy (Jv (Zs n) (2^w))).length=n - 1:=by
 rw [Qxo,Qyc (Qh8 n w) 64 hn,Qba n w n (Nat.le_refl _),if_pos hw]
inductive Lq (lg:Int) (f:List Nd):Md->Nat->Md->Nat->Prop
 |done {md:Md} {k:Nat} :(∀w,w < md.n.toNat->w≠k->cmN lg f (Nj md w) (Xt k w:Nat)≠0)->Lq lg f md k md k
 |step {md md':Md} {k k' w:Nat} :w < md.n.toNat->w≠k->cmN lg f (Nj md w) (Xt k w:Nat)=0->
  (∀u,w < u->u < md.n.toNat->u≠k->cmN lg f (Nj md u) (Xt k u:Nat)≠0)->Lq lg f (Nj md w) (Xt k w) md' k'->Lq lg f md k md' k'
theorem Lq.uniq {lg:Int} {f:List Nd} {md a b:Md} {k i j:Nat}(h1:Lq lg f md k a i)(h2:Lq lg f md k b j):a=b/\i=j:=by
 induction h1 with
 |done hd =>
  cases h2 with
  |done _=>exact⟨rfl,rfl⟩
  |step hw hk hc _ _=>exact absurd hc (hd _ hw hk)
 |@step md md' k k' w hw hk hc hn _ ih =>
  cases h2 with
  |done hd=>exact absurd hc (hd _ hw hk)
  |@step _ _ _ _ u lR wM tO aB h3 =>
   have e:w=u:=by
    rcases Nat.lt_trichotomy w u with h|h|h
    ·exact absurd tO (hn u h lR wM)
    ·exact h
    exact absurd hc (aB w h hw hk)
   subst e;exact ih h3
theorem Lq.ok {lg:Int} {f:List Nd} {md md':Md} {k k':Nat}(h:Lq lg f md k md' k')(hc:Uh lg f md k):
 Uh lg f md' k'/\md'.n<=md.n/\(∀w,w < md'.n.toNat->w≠k'->cmN lg f (Nj md' w) (Xt k' w:Nat)≠0)/\(md'.n=md.n->md'=md/\k'=k):=by
 induction h with
 |done hd=>exact⟨hc,Int.le_refl _,hd,fun _=>⟨rfl,rfl⟩⟩
 |@step md md' k k' w hw hk hz hn _ ih =>
  obtain⟨j,hj,zO⟩:=Dm.1 hz;have ej:j=Xt k w:=by omega
  rw [ej]at zO;obtain⟨h1,h2,h3,_⟩:=ih zO;have yN:=(Zn hc.good.ck).2.1;have hl:(Nj md w).n=((md.n.toNat - 1:Nat):Int):=by
   show((Jy (Jv (Zs md.n.toNat) (2^w))).length:Int)=_;rw [Qye (by omega) hw]
  rw [hl]at h2;exact⟨h1,by omega,h3,fun e=>by omega⟩
theorem Mh.part {lg:Int} {f:List Nd} {md:Md} {k out:Nat}(hg:Mh md (2^k) out)(hc:Uh lg f md k):Uh lg f (Ji md (Jy out)) (Gz out k)/\(Jy out).length<=md.n.toNat/\out < 2^md.n.toNat:=by
 have yN:=(Zn hc.good.ck).2.1;have vW:∀i,out.testBit i=true->i < md.n.toNat:=fun i hi=>by
  refine hg.least (fun i=>i < md.n.toNat) (fun i hi=> ?_) (fun a _ u _ v hv=>(Dj hc.good.ck a u v hv).2) i hi;rw [Nat.testBit_two_pow,decide_eq_true_iff]at hi;have:=hc.lt;omega
 have ho:out < 2^md.n.toNat:=Nat.lt_pow_two_of_testBit _ fun i hi=>by
  cases hb:out.testBit i
  ·rfl
  exact absurd (vW i hb) (by omega)
 have zG:∀w∈Jy out,w < md.n.toNat:=fun w hw=>vW w (Da.1 hw).2
 have hk:=hc.lt;have gP:(Jy out).length<=md.n.toNat:=by
  rw [Qxo,Qyc ho 64 (by omega)];unfold Gz;exact Qx (List.countP_le_length) (by rw [List.length_range];exact Nat.le_refl _)
 refine⟨hc.part zG (fun a ha u hu v hv=> ?_) (by omega) (Qc1 (by omega) (hg.sub k (by rw [Nat.testBit_two_pow];simp))),gP,ho⟩;have:=hg.cl a ha u (Da.1 hu).2 v hv;have h2:=vW v this;exact Da.2 ⟨by omega,this⟩
def Yk(n a v:Nat):Nat:=n*v+n*n*a
def Gk(n k j:Nat):Nat:=k / 2^(n*j) % 2^n
def Fg(n a v k:Nat):Md:=⟨(n:Int),(List.range v).map fun j=>Gk n k j,(List.range a).map fun i=>(List.range n).map fun u=>Gk n k (v+(n*i+u))⟩
theorem Qmm(n k j:Nat):Gk n k j < 2^n:=Nat.mod_lt _ (Nat.two_pow_pos n)
theorem Qoh(n k j b:Nat):(Gk n k j).testBit b=(decide (b < n)&&k.testBit (n*j+b)):=by
 unfold Gk;rw [Nat.testBit_mod_two_pow,Nat.testBit_div_two_pow,Nat.add_comm]
theorem Qcx {n a v k:Nat}(h1:1<=n)(h2:n<=64)(h3:a<=4)(h4:v<=8):Zq (Fg n a v k)=0:=by
 refine Qqf (show(1:Int)<=(n:Int) by omega) (show(n:Int)<=64 by omega) (by simp [Fg];exact h3) (by simp [Fg];exact h4) ?_ ?_ ?_
 ·intro r hr;obtain⟨i,_,rfl⟩:=List.mem_map.1 hr;rw [List.length_map,List.length_range];rfl
 ·intro s hs;obtain⟨j,_,rfl⟩:=List.mem_map.1 hs;exact Qmm _ _ _
 intro r hr s hs;obtain⟨i,_,rfl⟩:=List.mem_map.1 hr;obtain⟨u,_,rfl⟩:=List.mem_map.1 hs;exact Qmm _ _ _
def Hk(md:Md)(n v j:Nat):Nat:=if j < v then md.val.getD j 0 else(md.rel.getD ((j - v) / n) []).getD ((j - v) % n) 0
theorem Qit {md:Md} {n a v:Nat}(zT:Zq md=0)(hn:md.n=(n:Int))(ha:md.rel.length=a)(hv:md.val.length=v):∃k,k < 2^Yk n a v/\Fg n a v k=md:=by
 obtain⟨h1,_,_,_,h5,_,_⟩:=Zn zT;obtain⟨h6,h7⟩:=Oq zT;have vR:1<=n:=by omega
 have cK:md.n.toNat=n:=by omega
 rw [cK]at h6 h7;obtain⟨k,hk⟩:∃k,k=Vt (Yk n a v) (fun p=>(Hk md n v (p / n)).testBit (p % n)):=⟨_,rfl⟩;have NW:∀j,j < v+n*a->Hk md n v j < 2^n->Gk n k j=Hk md n v j:=fun j hj zG=>by
  refine Nat.eq_of_testBit_eq fun b=> ?_
  rw [Qoh];by_cases hb:b < n
  ·rw [decide_eq_true hb,Bool.true_and,hk,Rz];have e1:(n*j+b) / n=j:=by rw [Nat.mul_add_div vR,Nat.div_eq_of_lt hb,Nat.add_zero]
   have e2:(n*j+b) % n=b:=by rw [Nat.mul_add_mod,Nat.mod_eq_of_lt hb]
   have e3:n*j+b < Yk n a v:=by
    unfold Yk;have h1:n*(j+1)<=n*(v+n*a):=Nat.mul_le_mul_left n hj;rw [Nat.mul_add,Nat.mul_add,Nat.mul_one,<-Nat.mul_assoc]at h1;omega
   rw [decide_eq_true e3,Bool.true_and,e1,e2]
  rw [decide_eq_false hb,Bool.false_and];exact(Nat.testBit_lt_two_pow (Qy zG (Nat.pow_le_pow_right (by decide) (by omega)))).symm
 refine⟨k,by rw [hk];exact Dh _ _,?_⟩;obtain⟨mn,mv,mr⟩:=md;have RP:mn=(n:Int):=hn;have iA:mv.length=v:=hv;have EU:mr.length=a:=ha;subst RP;have ev:(List.range v).map (fun j=>Gk n k j)=mv:=by
  refine List.ext_getElem (by simp [iA]) fun j kT iH=> ?_
  rw [List.getElem_map,List.getElem_range];have e:Hk ⟨(n:Int),mv,mr⟩ n v j=mv[j]:=by
   unfold Hk;rw [if_pos (by omega),Qk,Qv iH];rfl
  rw [NW j (by omega) (by rw [e];exact h6 _ (List.getElem_mem iH)),e]
 have er:(List.range a).map (fun i=>(List.range n).map fun u=>Gk n k (v+(n*i+u)))=mr:=by
  refine List.ext_getElem (by simp [EU]) fun i iJ eP=> ?_
  rw [List.getElem_map,List.getElem_range];have hl:=h5 _ (List.getElem_mem eP);have sX:(mr[i]).length=n:=by
   have:(((mr[i]).length:Nat):Int)=(n:Int):=hl;omega
  refine List.ext_getElem (by simp [sX]) fun u JN JM=> ?_
  rw [List.getElem_map,List.getElem_range];have dP:u < n:=by omega
  have e:Hk ⟨(n:Int),mv,mr⟩ n v (v+(n*i+u))=(mr[i])[u]:=by
   unfold Hk;rw [if_neg (by omega),Nat.add_sub_cancel_left,Nat.mul_add_div vR,Nat.div_eq_of_lt dP,Nat.add_zero,Nat.mul_add_mod,Nat.mod_eq_of_lt dP];show(mr.getD i []).getD u 0=_;rw [Qk (l:=mr),Qv eP,Option.getD_some,Qk,Qv JM];rfl
  have zG:v+(n*i+u) < v+n*a:=by
   have h1:n*(i+1)<=n*a:=Nat.mul_le_mul_left n (by omega);rw [Nat.mul_add,Nat.mul_one]at h1;omega
  rw [NW _ zG (by rw [e];exact h7 _ (List.getElem_mem eP) _ (List.getElem_mem JM)),e]
 unfold Fg;rw [ev,er]
def Id(md:Md)(a v:Nat):Md:=⟨md.n,md.val.take v,md.rel.take a⟩
theorem Qag {f:List Nd}(hc:check f=0):Yc f (Ya (Jr (Qg f))) (Ya (Yy (Qg f)))=true:=by
 unfold Yc;rw [Bool.and_eq_true,Bool.and_eq_true,List.all_eq_true,List.all_eq_true];refine⟨by rw [hc];rfl,fun i _=> ?_,fun i _=> ?_⟩
 ·unfold Xj;rw [Bool.or_eq_true,decide_eq_true_iff];cases hb:(Jr (Qg f)).testBit i
  ·exact Or.inl rfl
  exact Or.inr (Ka (Cj _) hb)
 unfold Xj;rw [Bool.or_eq_true,decide_eq_true_iff];cases hb:(Yy (Qg f)).testBit i
 ·exact Or.inl rfl
 exact Or.inr (Ka (Cj _) hb)
theorem Qrw {f:List Nd} {a b:Nat}(hc:check f=0)(h:Yc f a b=true):Ya (Jr (Qg f))<=a/\Ya (Yy (Qg f))<=b:=by
 have hh:=(Jf hc).2.2.2;unfold Yc at h;rw [Bool.and_eq_true,Bool.and_eq_true,List.all_eq_true,List.all_eq_true]at h;have hA:=Nb (Qg f) 0 hh (by decide);have hF:=Sg (Qg f) 0 hh (by decide);refine⟨Qjx (Nat.lt_pow_two_of_testBit _ fun i hi=> ?_),Qjx (Nat.lt_pow_two_of_testBit _ fun i hi=> ?_)⟩
 ·cases hb:(Jr (Qg f)).testBit i
  ·rfl
  have h4:=Ka hA hb;have:=h.2.1 i (List.mem_range.2 h4);unfold Xj at this;rw [hb,decide_eq_false (by omega)]at this;cases this
 cases hb:(Yy (Qg f)).testBit i
 ·rfl
 have h4:=Ka hF hb;have:=h.2.2 i (List.mem_range.2 h4);unfold Xj at this;rw [hb,decide_eq_false (by omega)]at this;cases this
theorem Uh.red {lg:Int} {f:List Nd} {md:Md} {k:Nat}(h:Uh lg f md k):Uh lg f (Id md (Ya (Jr (Qg f))) (Ya (Yy (Qg f)))) k:=by
 obtain⟨zT,hc,hs,hf⟩:=Vr h.ck;obtain⟨hA,hF⟩:=Qrw hc hf;have iL:=Qag hc;obtain⟨A,G4⟩:∃A,A=Ya (Jr (Qg f)):=⟨_,rfl⟩;obtain⟨F,FA⟩:∃F,F=Ya (Yy (Qg f)):=⟨_,rfl⟩;rw [<-G4]at hA iL⊢;rw [<-FA]at hF iL⊢;obtain⟨h1,h2,h3,h4,h5,_,_⟩:=Zn zT;obtain⟨h6,h7⟩:=Oq zT;have wC:(Id md A F).rel.length=A:=by show(md.rel.take A).length=A;rw [List.length_take];omega
 have pT:(Id md A F).val.length=F:=by show(md.val.take F).length=F;rw [List.length_take];omega
 have NY:Zq (Id md A F)=0:=Qqf h1 h2 (by omega) (by omega) (fun r hr=>h5 r (List.mem_of_mem_take hr)) (fun s hs=>h6 s (List.mem_of_mem_take hs)) (fun r hr=>h7 r (List.mem_of_mem_take hr));have YE:Zi (Id md A F) f=0:=by
  unfold Zi;rw [if_neg (by rw [NY];simp),if_neg (by rw [hc];simp),if_neg (by rw [hs];simp),wC,pT,if_neg (by rw [iL];simp)]
 have hE:Emb (Gj (Id md A F)) (Gj md) A F (fun i:Fin md.n.toNat=>i):=by
  refine⟨fun i h0 h1 u=> ?_,fun i h0 h1 u v=> ?_,fun i h0 h1 u y _=>⟨y,rfl⟩⟩
  ·show((md.val.take F).getD i.toNat 0).testBit u.1=true↔(md.val.getD i.toNat 0).testBit u.1=true;rw [Qk,List.getElem?_take,if_pos (by omega),Qk]
  obtain⟨a,rfl⟩:=Int.eq_ofNat_of_zero_le h0;have ha:a < A:=by omega
  refine(kmR (md:=Id md A F) (show a < (Id md A F).rel.length by omega) u v).trans (Iff.trans ?_ (kmR (md:=md) (by omega) u v).symm);show((((md.rel.take A).getD a []).getD u.1 0).testBit v.1=true)↔((md.rel.getD a []).getD u.1 0).testBit v.1=true;rw [show(md.rel.take A).getD a []=md.rel.getD a [] by rw [Qk,List.getElem?_take,if_pos ha,Qk]]
 refine⟨YE,h.lt,(Om NY h.good.lgr).2 fun a ha=> ?_,fun w hw=> ?_⟩
 ·rw [wC]at ha;exact hE.frm (by omega) (by omega) ((Om zT h.good.lgr).1 h.good a (by omega))
 have:=Qrp YE;rw [wC,pT]at this;exact(hE.sat _ this w).2 (h.sat w hw)
theorem Uh.num {lg:Int} {f:List Nd} {md:Md} {k:Nat}(h:Uh lg f md k):
 ∃j,j < 2^Yk md.n.toNat (Ya (Jr (Qg f))) (Ya (Yy (Qg f)))/\Uh lg f (Fg md.n.toNat (Ya (Jr (Qg f))) (Ya (Yy (Qg f))) j) 0:=by
 obtain⟨zT,hc,hs,hf⟩:=Vr h.ck;obtain⟨h1,h2,_⟩:=Zn zT;have hk:=h.lt;obtain⟨ws,SX⟩:∃ws,ws=(List.range md.n.toNat).map (fun i=>if i=0 then k else if i=k then 0 else i):=⟨_,rfl⟩;have zH:ws.length=md.n.toNat:=by rw [SX,List.length_map,List.length_range]
 have wK:∀u,u < md.n.toNat->u∈ws:=fun u hu=>by
  rw [SX,List.mem_map];by_cases e:u=k
  ·exact⟨0,List.mem_range.2 (by omega),by rw [if_pos rfl,e]⟩
  by_cases e0:u=0
  ·exact⟨k,List.mem_range.2 hk,by rw [if_neg (by omega),if_pos rfl,e0]⟩
  exact⟨u,List.mem_range.2 hu,by rw [if_neg e0,if_neg e]⟩
 have zG:∀w∈ws,w < md.n.toNat:=fun u hu=>by
  rw [SX,List.mem_map]at hu;obtain⟨i,hi,rfl⟩:=hu;have:=List.mem_range.1 hi
  split
  ·exact hk
  split <;> omega
 have hj0:ws[0]?=some k:=by
  rw [SX,List.getElem?_map,List.getElem?_range (by omega)];rfl
 have h3:=(h.part zG (fun a _ u _ v hv=>wK v (Dj zT a u v hv).2) (by omega) hj0).red;have mN:=Qrw hc hf
 obtain⟨j,hj,e⟩:=Qit (md:=Id (Ji md ws) (Ya (Jr (Qg f))) (Ya (Yy (Qg f)))) (n:=md.n.toNat) (a:=Ya (Jr (Qg f))) (v:=Ya (Yy (Qg f))) h3.good.ck (by show(ws.length:Int)=_;rw [zH])
  (by show((Ji md ws).rel.take _).length=_;rw [List.length_take,show(Ji md ws).rel.length=md.rel.length by simp [Ji]];omega)
  (by show((Ji md ws).val.take _).length=_;rw [List.length_take,show(Ji md ws).val.length=md.val.length by simp [Ji]];omega)
 exact⟨j,hj,by rw [e];exact h3⟩
theorem Hw:∀(m:Nat) (l:List Nat),l.Nodup->(∀u∈l,u < m)->l.length<=m
 |0,l,_,h=>by
  cases l with
  |nil=>simp
  |cons a r=>have:=h a (List.mem_cons_self ..);omega
 |m+1,l,hn,h=>by
  by_cases hm:m∈l
  ·have h1:=Hw m (l.erase m) (hn.erase m) (fun u hu=>by
    have h2:=List.mem_of_mem_erase hu;have h3:=h u h2;have h4:u≠m:=fun e=>by
     subst e;exact absurd hu (hn.not_mem_erase)
    omega)
   rw [List.length_erase_of_mem hm]at h1;omega
  have:=Hw m l hn (fun u hu=>by
   have h3:=h u hu;have h4:u≠m:=fun e=>hm (e▸hu)
   omega)
  omega
structure Bfs (step:Nat->Nat->Bool) (m t:Nat) (q ps:List Nat):Prop where
 len:ps.length=q.length
 head:q[0]?=some t
 lt:∀u∈q.tail,u < m
 nd:q.tail.Nodup
 par:∀j,1<=j->j < q.length->ps.getD j 0 < j/\step (q.getD (ps.getD j 0) 0) (q.getD j 0)=true
section
variable {step:Nat->Nat->Bool} {m t:Nat} {q ps:List Nat}
theorem Bfs.start(step:Nat->Nat->Bool)(m t:Nat):Bfs step m t [t] [0]:=⟨rfl,rfl,by simp,by simp,fun j h1 h2=>by simp at h2;omega⟩
theorem Bfs.pos(h:Bfs step m t q ps):0 < q.length:=(List.getElem?_eq_some_iff.1 h.head).1
theorem Bfs.qlen(h:Bfs step m t q ps):q.length<=m+1:=by
 have:=Hw m q.tail h.nd h.lt;rw [List.length_tail]at this;omega
theorem Nw {l:List Nat} {x j:Nat}(h:j < l.length):(l++ [x]).getD j 0=l.getD j 0:=by
 rw [Qk,List.getElem?_append_left h,Qk]
theorem Se {l:List Nat} {x:Nat} :(l++ [x]).getD l.length 0=x:=by simp
theorem Lm {l:List Nat} {x:Nat}(h:0 < l.length):(l++ [x]).tail=l.tail++ [x]:=by
 cases l with
 |nil=>simp at h
 |cons a r=>rfl
theorem Bfs.push(h:Bfs step m t q ps) {i u:Nat}(hi:i < q.length)(hu:u < m)(hn:u∉q.tail)(hs:step (q.getD i 0) u=true):Bfs step m t (q++ [u]) (ps++ [i]):=by
 have hp:=h.pos;refine⟨by simp [h.len],?_,?_,?_,fun j h1 h2=> ?_⟩
 ·rw [List.getElem?_append_left hp];exact h.head
 ·rw [Lm hp];intro x hx;rcases List.mem_append.1 hx with hx|hx
  ·exact h.lt x hx
  rw [List.mem_singleton.1 hx];exact hu
 ·rw [Lm hp,List.nodup_append];exact⟨h.nd,by simp,fun a ha b hb e=>hn (by rw [List.mem_singleton.1 hb]at e;exact e▸ha)⟩
 by_cases hj:j < q.length
 ·have:=h.par j h1 hj;rw [Nw (by rw [h.len];exact hj),Nw hj,Nw (by omega)];exact this
 have e:j=q.length:=by simp at h2;omega
 subst e;have e2:(ps++ [i]).getD q.length 0=i:=by rw [<-h.len];exact Se
 rw [e2,Se,Nw hi];exact⟨hi,hs⟩
theorem Qvv {l:List Nat} {j:Nat}(h1:1<=j)(h2:j < l.length):l.getD j 0∈l.tail:=by
 cases l with
 |nil=>simp at h2
 |cons a r =>
  obtain⟨k,rfl⟩:∃k,j=k+1:=⟨j - 1,by omega⟩;have hk:k < r.length:=by simpa using h2
  rw [Qk,List.getElem?_cons_succ,Qv hk];exact List.getElem_mem hk
theorem Bfs.reach(h:Bfs step m t q ps):∀j,1<=j->j < q.length->Rch (fun a b=>step a b=true) t (q.getD j 0):=by
 intro j
 induction j using Nat.strongRecOn with
 |_ j ih =>
  intro h1 h2;obtain⟨hp,hs⟩:=h.par j h1 h2;by_cases h0:ps.getD j 0=0
  ·rw [h0]at hs;have e:q.getD 0 0=t:=by rw [Qk,h.head];rfl
   rw [e]at hs;exact .one hs
  exact(ih _ hp (by omega) (by omega)).snoc hs
theorem Bfs.closed(h:Bfs step m t q ps)(hc:∀j,j < q.length->∀u,step (q.getD j 0) u=true->u∈q.tail) {u:Nat}(hr:Rch (fun a b=>step a b=true) t u):u∈q.tail:=by
 have key:∀a b,Rch (fun a b=>step a b=true) a b->(∃j,j < q.length/\q.getD j 0=a)->b∈q.tail:=by
  intro a b qT
  induction qT with
  |one h1 =>
   rintro⟨j,hj,rfl⟩;exact hc j hj _ h1
  |cons h1 _ ih =>
   rintro⟨j,hj,rfl⟩;refine ih ?_;have hm:=hc j hj _ h1;obtain⟨k,hk,e⟩:=List.getElem_of_mem hm;rw [List.length_tail]at hk;refine⟨k+1,by omega,?_⟩;rw [List.getElem_tail]at e;rw [Qk,List.getElem?_eq_getElem (by omega)];exact e
 exact key t u hr ⟨0,h.pos,by rw [Qk,h.head];rfl⟩
end
def Hb(step:Nat->Nat->Bool)(t:Nat):List Nat->Prop
 |[]=>True
 |[u]=>step t u=true
 |u :: v :: r=>step v u=true/\Hb step t (v :: r)
theorem Qkp {step:Nat->Nat->Bool} {t:Nat} :∀(l:List Nat) (u:Nat),(∀a,Hb step a l->step t u=true->a=u->Hb step t (l++ [u]))
 |[],u=>fun _ _ h _=>h
 |[v],u=>fun a h1 h2 e=>by subst e;exact⟨h1,h2⟩
 |v :: x :: r,u=>fun a h1 h2 e=>⟨h1.1,Qkp (x :: r) u a h1.2 h2 e⟩
def Di(l:List Nat)(i:Int):List Nat:=if 0<=i/\i.toNat∉l then l++ [i.toNat]else l
def Lo(lg:Int)(ks:List Kn)(l:List Nat)(t:Nat)(k:Kn):Prop:=t.testBit k.place=false->∃u,u∈l/\k.holds.getD u false=false/\Jq lg ks k.agent t u=true
def Lw(lg:Int)(ks:List Kn)(al:List Bool)(l:List Nat)(t:Nat)(c:Cm):Prop:=t.testBit c.place=false->∃u,Rch (fun a b=>Mx lg ks al c a b=true/\b∈l) t u/\c.y.getD u false=false
def Pz(lg:Int)(ks:List Kn)(l:List Nat)(t a:Nat):Prop:=lg=1\/lg=5->∃u,u∈l/\Jq lg ks (a:Int) t u=true
structure Sel (lg:Int) (ks:List Kn) (cs:List Cm) (al:List Bool) (agents:Nat) (l:List Nat) (t:Nat):Prop where
 know:∀k∈ks,Lo lg ks l t k
 com:∀c∈cs,Lw lg ks al l t c
 ser:∀a,a < agents->Pz lg ks l t a
structure Ke (al:List Bool) (l l':List Nat):Prop where
 pre:l <+: l'
 nd:l.Nodup->l'.Nodup
 al:(∀u∈l,al.getD u false=true)->∀u∈l',al.getD u false=true
section
variable {lg:Int} {ks:List Kn} {cs:List Cm} {al:List Bool} {agents:Nat} {l l' l'':List Nat} {t:Nat}
theorem Ke.refl:Ke al l l:=⟨List.prefix_refl _,id,id⟩
theorem Ke.trans(h:Ke al l l')(k:Ke al l' l''):Ke al l l'':=⟨h.pre.trans k.pre,fun e=>k.nd (h.nd e),fun e=>k.al (h.al e)⟩
theorem Ke.sub(h:Ke al l l'):∀u∈l,u∈l':=fun _ hu=>h.pre.subset hu
theorem Ke.get(h:Ke al l l') {k:Nat}(hk:k < l.length):l'.getD k 0=l.getD k 0:=by
 obtain⟨r,rfl⟩:=h.pre;rw [Qk,Qk,List.getElem?_append_left hk]
theorem Lo.mono {k:Kn}(h:Lo lg ks l t k)(hs:∀u∈l,u∈l'):Lo lg ks l' t k:=fun ht=>by
 obtain⟨u,h1,h2⟩:=h ht;exact⟨u,hs u h1,h2⟩
theorem Lw.mono {c:Cm}(h:Lw lg ks al l t c)(hs:∀u∈l,u∈l'):Lw lg ks al l' t c:=fun ht=>by
 obtain⟨u,h1,h2⟩:=h ht;exact⟨u,h1.mono (fun a b hb=>⟨hb.1,hs b hb.2⟩),h2⟩
theorem Pz.mono {a:Nat}(h:Pz lg ks l t a)(hs:∀u∈l,u∈l'):Pz lg ks l' t a:=fun ht=>by
 obtain⟨u,h1,h2⟩:=h ht;exact⟨u,hs u h1,h2⟩
theorem Sel.mono(h:Sel lg ks cs al agents l t)(hs:∀u∈l,u∈l'):Sel lg ks cs al agents l' t :=
 ⟨fun k hk=>(h.know k hk).mono hs,fun c hc=>(h.com c hc).mono hs,fun a ha=>(h.ser a ha).mono hs⟩
theorem Qby {i:Int}(h0:0<=i):i.toNat∈Di l i:=by
 unfold Di;by_cases h:i.toNat∈l
 ·rw [if_neg (fun e=>e.2 h)];exact h
 rw [if_pos ⟨h0,h⟩];simp
theorem Qx8 {i:Int}(h:0<=i->al.getD i.toNat false=true):Ke al l (Di l i):=by
 unfold Di;by_cases h1:0<=i/\i.toNat∉l
 ·rw [if_pos h1];refine⟨List.prefix_append _ _,fun hn=> ?_,fun ha u hu=> ?_⟩
  ·rw [List.nodup_append];exact⟨hn,by simp,fun a ha b hb e=>h1.2 (by rw [List.mem_singleton.1 hb]at e;rwa [<-e])⟩
  rcases List.mem_append.1 hu with hu|hu
  ·exact ha u hu
  rw [List.mem_singleton.1 hu];exact h h1.1
 rw [if_neg h1];exact Ke.refl
theorem Qrn {i:Int}(h:¬(0<=i/\i.toNat∉l)):Di l i=l:=if_neg h
theorem Qhp {i:Int}(h0:0<=i)(h:i.toNat∉l):Di l i=l++ [i.toNat]:=if_pos ⟨h0,h⟩
def Hv(lg:Int)(ks:List Kn)(al:List Bool)(a:Int)(t:Nat)(wanted:Nat->Bool)(l:List Nat):List Nat :=
 if l.any (fun u=>wanted u&&Jq lg ks a t u)then l else Di l (Xm lg ks al a t wanted)
theorem Qdg {a:Int} {wanted:Nat->Bool}(h:0<=Xm lg ks al a t wanted):Xc lg ks al a t wanted (Xm lg ks al a t wanted).toNat=true:=by
 unfold Xm at h⊢;cases e:(List.range al.length).find? (Xc lg ks al a t wanted)with
 |none=>rw [e]at h;simp at h
 |some k =>
  obtain⟨h1,_,_⟩:=List.find?_range_eq_some.1 e
  simpa using h1
theorem Qnx {a:Int} {wanted:Nat->Bool} :Ke al l (Hv lg ks al a t wanted l):=by
 unfold Hv
 split
 ·exact Ke.refl
 refine Qx8 fun h0=> ?_
 have:=Qdg h0;unfold Xc at this;rw [Bool.and_eq_true]at this;exact this.1
theorem Qsp {a:Int} {wanted:Nat->Bool}(h:0<=Xm lg ks al a t wanted):∃u,u∈Hv lg ks al a t wanted l/\wanted u=true/\Jq lg ks a t u=true:=by
 unfold Hv
 split
 ·rename_i h1;rw [List.any_eq_true]at h1;obtain⟨u,hu,h2⟩:=h1;rw [Bool.and_eq_true]at h2;exact⟨u,hu,h2⟩
 have:=Qdg h;unfold Xc at this;rw [Bool.and_eq_true,Bool.and_eq_true]at this;exact⟨_,Qby h,this.2⟩
def Db(l ls:List Nat):List Nat:=ls.foldl (fun o (u:Nat)=>Di o (u:Int)) l
theorem Qj3:∀(ls l:List Nat),(∀u∈ls,al.getD u false=true)->Ke al l (Db l ls)
 |[],_,_=>Ke.refl
 |a :: r,l,h=>(Qx8 (fun _=>by rw [Int.toNat_natCast];exact h a (List.mem_cons_self ..))).trans (Qj3 r _ (fun u hu=>h u (List.mem_cons_of_mem _ hu)))
theorem Qv7:∀(ls l:List Nat) (u:Nat),u∈ls\/u∈l->u∈Db l ls
 |[],_,_,h=>by rcases h with h|h;· cases h
               ·exact h
 |a :: r,l,u,h=>by
  have hs:∀v,v∈l->v∈Di l (a:Int):=fun v hv=>by
   unfold Di;split
   ·exact List.mem_append.2 (Or.inl hv)
   exact hv
  refine Qv7 r _ u ?_;rcases h with h|h
  ·rcases List.mem_cons.1 h with rfl|h
   ·exact Or.inr (by have:=Qby (l:=l) (i:=(u:Int)) (by omega);rwa [Int.toNat_natCast]at this)
   exact Or.inl h
  exact Or.inr (hs u h)
theorem Qgt {step:Nat->Nat->Bool} {t:Nat} :∀(ls:List Nat) (u:Nat),ls[0]?=some u->Hb step t ls->Rch (fun a b=>step a b=true/\b∈ls) t u
 |[],_,h,_=>by cases h
 |[v],u,h,hl=>by
  obtain rfl:v=u:=by simpa using h
  exact .one ⟨hl,List.mem_singleton.2 rfl⟩
 |a :: b :: r,u,h,hl=>by
  obtain rfl:a=u:=by simpa using h
  have ih:=Qgt (b :: r) b rfl hl.2;exact(ih.mono (fun x y pB=>⟨pB.1,List.mem_cons_of_mem _ pB.2⟩)).snoc ⟨hl.1,List.mem_cons_self ..⟩
theorem Qgs {step:Nat->Nat->Bool} {t:Nat} :∀(ls:List Nat),Hb step t ls->∀u∈ls,∃a,step a u=true
 |[],_,u,h=>by cases h
 |[v],hl,u,h=>by rw [List.mem_singleton.1 h];exact⟨t,hl⟩
 |a :: b :: r,hl,u,h=>by
  rcases List.mem_cons.1 h with rfl|h
  ·exact⟨b,hl.1⟩
  exact Qgs (b :: r) hl.2 u h
theorem Qi9 {c:Cm} {a u:Nat}(h:Mx lg ks al c a u=true):al.getD u false=true:=by
 unfold Mx at h;rw [Bool.and_eq_true]at h;exact h.1
end
section
variable {l:List (List Nd)} {t0:Tr} (hB:Td l t0) {lg:Int}
include hB
theorem Qab {al:List Bool} {agents:Nat} {S:List Nat}(hl:al.length=2^l.length)(hS:∀u∈S,al.getD u false=true)(hc:∀t,al.getD t false=true->Vz lg (Zl l) (Jl l) t=true)
 (hw:∀t∈S,Sel lg (Zl l) (Jl l) al agents S t)(vH:∀n a,.one n a∈l.map Qe->n.i < (agents:Int)):Eb lg (l.map Qe) (fun t=>t∈S) (th l) where
 coh t ht:=(Qxd hB (hl▸Xg (hS t ht))).1 (hc t (hS t ht))
 ser hs t ht i ho:=by
  obtain⟨n,a,hm,hi⟩:=ho;obtain⟨_,_,_,h0,h4⟩:=hB.closed.know n a hm;have h1:=vH n a hm;obtain⟨u,hu,hp⟩:=(hw t ht).ser i.toNat (by omega) hs;rw [show((i.toNat:Nat):Int)=i by omega]at hp;exact⟨u,hu,(Fi hB (hl▸Xg (hS u hu))).1 hp⟩
 know t ht n a hm hf:=by
  obtain⟨j,hg,hj,tC⟩:=Bg hB hm;obtain⟨u,hu,h2,hp⟩:=(hw t ht).know _ ((Gr hB).2 ⟨j,n,a,hm,hg,rfl⟩) (by rw [<-tC];exact hf);have qF:u < 2^l.length:=hl▸Xg (hS u hu);exact⟨u,hu,by rw [<-Ld hB hm qF];exact h2,(Fi hB qF).1 hp⟩
 com t ht n a b hm hf:=by
  obtain⟨j,hg,hj,tC⟩:=Bg hB hm;obtain⟨u,hr,hy⟩:=(hw t ht).com _ ((Nl hB).2 ⟨j,n,a,b,hm,hg,rfl⟩) (by rw [<-tC];exact hf);have TI:Rch (Pa lg (l.map Qe) (fun t=>t∈S) (th l) n.g a) t u:=hr.mono (fun x y pB=>⟨pB.2,((Qva hB hl hm x y).1 pB.1).2⟩);have qF:u∈S:=by
   have key:∀x y,Rch (Pa lg (l.map Qe) (fun t=>t∈S) (th l) n.g a) x y->y∈S:=by
    intro x y pB
    induction pB with
    |one h=>exact h.1
    |cons _ _ ih=>exact ih
   exact key t u TI
  exact⟨u,TI,by rw [<-(Qqn hB hm (hl▸Xg (hS u qF))).2];exact hy⟩
end
structure Qfo (lg:Int) (ks:List Kn) (cs:List Cm) (al:List Bool) (t:Nat):Prop where
 know:∀k∈ks,t.testBit k.place=false->0<=Xm lg ks al k.agent t (fun u=> !k.holds.getD u false)
 com:∀c∈cs,t.testBit c.place=false->Pr lg ks al c t=true
 ser:lg=1\/lg=5->∀a:Nat,a < 4->0<=Xm lg ks al (a:Int) t (fun _=>true)
theorem Qid {lg:Int} {ks:List Kn} {al:List Bool} {a:Int} {t u:Nat} {wanted:Nat->Bool}(h:Xc lg ks al a t wanted u=true):0<=Xm lg ks al a t wanted:=by
 refine Int.not_lt.1 fun hn=> ?_
 have hu:al.getD u false=true:=by
  unfold Xc at h;rw [Bool.and_eq_true]at h;exact h.1
 rw [Ct.1 hn u (Xg hu)]at h;cases h
section
variable {l:List (List Nd)} {t0:Tr} (hB:Td l t0) {lg:Int}
include hB
theorem Qa6 {al:List Bool}(hw:∀t,al.getD t false=true->∀i:Int,-4<=i->i < l.length->Vb lg (Zl l) (Jl l) al t i=false) {t:Nat}(ht:al.getD t false=true):Qfo lg (Zl l) (Jl l) al t where
 know k hk hf:=by
  obtain⟨j,n,a,hm,hg,rfl⟩:=(Gr hB).1 hk;have hj:j < l.length:=(List.getElem?_eq_some_iff.1 hg).1;have h:=hw t ht (j:Int) (by omega) (by omega);unfold Vb at h;rw [decide_eq_false (show ¬(j:Int) < 0 by omega),cond_false,Qr2 hB hm hg]at h;simp only [Int.toNat_natCast]at h;rw [show t.testBit j=false from hf,Bool.not_false,Bool.true_and,decide_eq_false_iff_not]at h;exact Int.not_lt.1 h
 com c hc hf:=by
  obtain⟨j,n,a,b,hm,hg,rfl⟩:=(Nl hB).1 hc;have hj:j < l.length:=(List.getElem?_eq_some_iff.1 hg).1;have h:=hw t ht (j:Int) (by omega) (by omega);unfold Vb at h;rw [decide_eq_false (show ¬(j:Int) < 0 by omega),cond_false,Qr3 hB hm hg,Qrc hB hm hg]at h;simp only [Int.toNat_natCast]at h;rw [show t.testBit j=false from hf,Bool.not_false,Bool.true_and]at h
  simpa using h
 ser hs a ha:=by
  by_cases tV:(Zl l).any (fun k=>k.agent==(a:Int))=true
  ·have h:=hw t ht (-1 - (a:Int)) (by omega) (by omega);unfold Vb at h;rw [decide_eq_true (show -1 - (a:Int) < 0 by omega),cond_true,show -1 - (-1 - (a:Int))=a by omega,tV]at h;have xY:(lg==1||lg==5)=true:=by rcases hs with e|e <;> rw [e] <;> rfl
   rw [xY,Bool.true_and,Bool.true_and,decide_eq_false_iff_not]at h;exact Int.not_lt.1 h
  refine Qid (u:=t) ?_;unfold Xc;rw [ht,Bool.true_and,Bool.true_and];unfold Jq;rw [List.all_eq_true];intro k hk;have:¬(k.agent==(a:Int))=true:=fun e=>tV (List.any_eq_true.2 ⟨k,hk,e⟩)
  have:(k.agent !=(a:Int))=true:=by unfold bne;rw [Bool.not_eq_true]at this;rw [this];rfl
  rw [this,Bool.true_or]
end
theorem Qma {lg:Int} {f:List Nd}(h:By lg f) {t:Nat}(ht:(Np lg f).1.getD t false=true):Qfo lg (Zl (Qm f).1) (Jl (Qm f).1) (Np lg f).1 t:=by
 refine Qa6 h.b (fun t ht i h0 h1=> ?_) ht;have:=Qyi (why:=Sm lg (Zl (Qm f).1) (Jl (Qm f).1) (Qm f).1.length) ((Km lg (Qm f).1).length+1) (Km lg (Qm f).1,[]) (by have:=Qkk (Km lg (Qm f).1);show cnt (Km lg (Qm f).1) < _;omega) t ht;exact Qfv this i h0 h1
theorem Qoe {lg:Int} {f:List Nd}(t:Nat)(ht:(Np lg f).1.getD t false=true):Vz lg (Zl (Qm f).1) (Jl (Qm f).1) t=true:=by
 have hs:=Qbw (Sm lg (Zl (Qm f).1) (Jl (Qm f).1) (Qm f).1.length) _ (Km lg (Qm f).1,[]) t ht;have hl:=Xg hs;rw [Sc]at hl;rw [<-Qqv hl];exact hs
theorem Qaf {lg:Int} {f:List Nd}(h:By lg f) {agents:Nat} {S:List Nat}(hS:∀u∈S,(Np lg f).1.getD u false=true)
 (hw:∀t∈S,Sel lg (Zl (Qm f).1) (Jl (Qm f).1) (Np lg f).1 agents S t)(vH:∀n a,.one n a∈(Qm f).1.map Qe->n.i < (agents:Int)):Eb lg ((Qm f).1.map Qe) (fun t=>t∈S) (th (Qm f).1):=
 Qab h.b Lv hS Qoe hw vH
section
variable {M N:KM} (e:N.W->M.W)
structure Zzq (n:Nd):Prop where
 agent:n.op=9\/n.op=10->∀u v,N.R n.i u v↔M.R n.i (e u) (e v)
 group:n.op=11\/n.op=12\/n.op=13->∀i:Nat,i < 4->Vy n.g i=true->∀u v,N.R (i:Int) u v↔M.R (i:Int) (e u) (e v)
 fact:n.op=3->∀u,N.V n.i u↔M.V n.i (e u)
theorem Qjr(hs:∀v,∃u,e u=v):∀(t:Tr),t.all (Zzq e)->∀u,N.sat t u↔M.sat t (e u)
 |.leaf n,h,u=>by
  show(n.op=1\/(n.op=3/\N.V n.i u))↔(n.op=1\/(n.op=3/\M.V n.i (e u)));refine or_congr Iff.rfl ⟨fun⟨h1,h2⟩=>⟨h1,(h.fact h1 u).1 h2⟩,fun⟨h1,h2⟩=>⟨h1,(h.fact h1 u).2 h2⟩⟩
 |.one n a,h,u=>by
  have ih:=Qjr hs a h.2;unfold KM.sat;by_cases h4:n.op=4
  ·rw [if_pos h4,if_pos h4,ih u]
  rw [if_neg h4,if_neg h4];by_cases h9:n.op=9
  ·rw [if_pos h9,if_pos h9];constructor
   ·intro k v hv;obtain⟨v',rfl⟩:=hs v;exact(ih v').1 (k v' ((h.1.agent (.inl h9) u v').2 hv))
   intro k v hv;exact(ih v).2 (k (e v) ((h.1.agent (.inl h9) u v).1 hv))
  rw [if_neg h9,if_neg h9];by_cases xQ:n.op=10
  ·rw [if_pos xQ,if_pos xQ];constructor
   ·rintro⟨v,hv,k⟩;exact⟨e v,(h.1.agent (.inr xQ) u v).1 hv,(ih v).1 k⟩
   rintro⟨v,hv,k⟩;obtain⟨v',rfl⟩:=hs v;exact⟨v',(h.1.agent (.inr xQ) u v').2 hv,(ih v').2 k⟩
  rw [if_neg xQ,if_neg xQ];by_cases uR:n.op=11
  ·rw [if_pos uR,if_pos uR];constructor
   ·intro k i hi hg v hv;obtain⟨v',rfl⟩:=hs v;exact(ih v').1 (k i hi hg v' ((h.1.group (.inl uR) i hi hg u v').2 hv))
   intro k i hi hg v hv;exact(ih v).2 (k i hi hg (e v) ((h.1.group (.inl uR) i hi hg u v).1 hv))
  rw [if_neg uR,if_neg uR];by_cases h12:n.op=12
  ·rw [if_pos h12,if_pos h12];constructor
   ·intro k v hv;obtain⟨v',rfl⟩:=hs v;exact(ih v').1 (k v' fun i hi hg=>(h.1.group (.inr (.inl h12)) i hi hg u v').2 (hv i hi hg))
   intro k v hv;exact(ih v).2 (k (e v) fun i hi hg=>(h.1.group (.inr (.inl h12)) i hi hg u v).1 (hv i hi hg))
  rw [if_neg h12,if_neg h12]
 |.two n a b,h,u=>by
  have iha:=Qjr hs a h.2.1;have ihb:=Qjr hs b h.2.2;unfold KM.sat;by_cases h5:n.op=5
  ·rw [if_pos h5,if_pos h5,iha u,ihb u]
  rw [if_neg h5,if_neg h5];by_cases h6:n.op=6
  ·rw [if_pos h6,if_pos h6,iha u,ihb u]
  rw [if_neg h6,if_neg h6];by_cases h7:n.op=7
  ·rw [if_pos h7,if_pos h7,iha u,ihb u]
  rw [if_neg h7,if_neg h7];by_cases h8:n.op=8
  ·rw [if_pos h8,if_pos h8,iha u,ihb u]
  rw [if_neg h8,if_neg h8];by_cases xK:n.op=13
  ·rw [if_pos xK,if_pos xK];have wX:∀x y,N.step n.g (N.sat a) x y↔M.step n.g (M.sat a) (e x) (e y):=fun x y=>by
    unfold KM.step;rw [iha y];refine and_congr ⟨?_,?_⟩ Iff.rfl
    ·rintro⟨i,hi,hg,hr⟩;exact⟨i,hi,hg,(h.1.group (.inr (.inr xK)) i hi hg x y).1 hr⟩
    rintro⟨i,hi,hg,hr⟩;exact⟨i,hi,hg,(h.1.group (.inr (.inr xK)) i hi hg x y).2 hr⟩
   have up:∀x y,Rch (N.step n.g (N.sat a)) x y->Rch (M.step n.g (M.sat a)) (e x) (e y):=fun x y hr=>hr.map e (fun x y h=>(wX x y).1 h)
   have down:∀p q,Rch (M.step n.g (M.sat a)) p q->∀x,e x=p->∃y,e y=q/\Rch (N.step n.g (N.sat a)) x y:=by
    intro p q hr
    induction hr with
    |@one p q hp =>
     rintro x rfl;obtain⟨y,rfl⟩:=hs q;exact⟨y,rfl,.one ((wX x y).2 hp)⟩
    |@cons p q r hp _ ih =>
     rintro x rfl;obtain⟨y,rfl⟩:=hs q;obtain⟨z,hz,hr⟩:=ih y rfl;exact⟨z,hz,.cons ((wX x y).2 hp) hr⟩
   constructor
   ·intro k v hv;obtain⟨y,rfl,hy⟩:=down _ _ hv u rfl;exact(ihb y).1 (k y hy)
   intro k v hv;exact(ihb v).2 (k (e v) (up u v hv))
  rw [if_neg xK,if_neg xK]
end
structure Wp (lg:Int) (base:List (List Nd)) (S:List Nat) (agents facts:Nat) (md:Md):Prop where
 n:md.n=S.length
 rel:md.rel=(List.range agents).map fun(a:Nat)=>(List.range S.length).map fun v=>Vt S.length fun w=>Jq lg (Zl base) (a:Int) (S.getD v 0) (S.getD w 0)
 vlen:md.val.length=facts
 vlow:∀s∈md.val,s < 2^S.length
 fact:∀(i p:Nat),i < base.length->(Zz (base.getD i [])).op=3->(Zz (base.getD i [])).i=(p:Int)->∀w,w < S.length->(md.val.getD p 0).testBit w=(S.getD w 0).testBit i
section
variable {lg:Int} {l:List (List Nd)} {t0:Tr} {S:List Nat} {agents facts:Nat} {md:Md}
theorem Wp.row(h:Wp lg l S agents facts md) {a:Nat}(ha:a < agents):md.rel.getD a []=(List.range S.length).map fun v=>Vt S.length fun w=>Jq lg (Zl l) (a:Int) (S.getD v 0) (S.getD w 0):=by
 rw [h.rel,Qk,List.getElem?_map,List.getElem?_range ha];rfl
theorem Wp.bit(h:Wp lg l S agents facts md) {a:Nat}(ha:a < agents) {v w:Nat}(hv:v < S.length):((md.rel.getD a []).getD v 0).testBit w=(decide (w < S.length)&&Jq lg (Zl l) (a:Int) (S.getD v 0) (S.getD w 0)):=by
 rw [h.row ha,Qk,List.getElem?_map,List.getElem?_range hv];exact Rz _ _ _
theorem Fb {S:List Nat} {v:Nat}(h:v < S.length):S.getD v 0∈S:=by
 rw [Qk,Qv h];exact List.getElem_mem _
theorem Qri {S:List Nat} {u:Nat}(h:u∈S):∃w,w < S.length/\S.getD w 0=u:=by
 obtain⟨w,hw,e⟩:=List.getElem_of_mem h;exact⟨w,hw,by rw [Qk,Qv hw];exact e⟩
variable (hB:Td l t0) (xY:0<=lg/\lg<=6) (hF:Eb lg (l.map Qe) (fun t=>t∈S) (th l)) (zG:∀u∈S,u < 2^l.length)
include hB xY hF zG
theorem Qat(h:Wp lg l S agents facts md)(h0:0 < S.length)(uP:S.length<=64)(V6:agents<=4)(T5:facts<=8):Fd md lg:=by
 have hM:=Qr5 hF xY.2;have uM:md.n.toNat=S.length:=by rw [h.n];exact Int.toNat_natCast _
 have wC:md.rel.length=agents:=by rw [h.rel];simp
 have zP:∀r∈md.rel,∃a,a < agents/\r=md.rel.getD a []:=fun r hr=>by
  obtain⟨a,ha,e⟩:=List.getElem_of_mem hr;exact⟨a,by omega,by rw [Qk,Qv ha];exact e.symm⟩
 have zH:∀a,a < agents->(md.rel.getD a []).length=S.length:=fun a ha=>by rw [h.row ha];simp
 have EL:∀a,a < agents->Zb (md.rel.getD a []) S.length=false:=fun a ha=>by
  unfold Zb;rw [List.any_eq_false];intro s hs;rw [h.row ha]at hs;obtain⟨v,_,rfl⟩:=List.mem_map.1 hs
  simpa using Dh _ _
 refine⟨xY,?_,fun r hr=> ?_⟩
 ·unfold Zq;rw [if_neg (by rw [h.n];omega),if_neg (by rw [wC,h.vlen];omega),uM];have h1:md.rel.any (fun r=> !decide ((r.length:Int)=md.n))=false:=by
   rw [List.any_eq_false];intro r hr;obtain⟨a,ha,rfl⟩:=zP r hr;rw [zH a ha,h.n];simp
  have h2:Zb md.val S.length=false:=by
   unfold Zb;rw [List.any_eq_false];intro s hs;have:=h.vlow s hs
   simpa using this
  have h3:md.rel.any (fun r=>Zb r S.length)=false:=by
   rw [List.any_eq_false];intro r hr;obtain⟨a,ha,rfl⟩:=zP r hr;rw [EL a ha];simp
  rw [h1,h2,h3];rfl
 obtain⟨a,ha,rfl⟩:=zP r hr;have yF:=hM (a:Int);have oH:∀v w,v < S.length->(((md.rel.getD a []).getD v 0).testBit w=true↔w < S.length/\Ti lg (l.map Qe) (a:Int) (th l (S.getD v 0)) (th l (S.getD w 0))):=fun v w hv=>by
  rw [h.bit ha hv,Bool.and_eq_true,decide_eq_true_iff];refine and_congr_right fun hw=> ?_
  exact Fi hB (zG _ (Fb hw))
 have hl:=zH a ha;generalize md.rel.getD a []=r at oH hl;intro q hq;have hq':=hq;unfold Gg at hq;have wK:=Qzf hq';unfold Kz;by_cases h1:q=1
 ·rw [if_pos h1];intro v hv hz;rw [hl]at hv;have hs:lg=1\/lg=5:=by
   subst h1
   repeat' split at hq
   all_goals(simp at hq;try omega)
  obtain⟨u,hp⟩:=yF.ser hs ⟨S.getD v 0,Fb hv⟩;obtain⟨w,hw,e⟩:=Qri u.2;have Q6:Ti lg (l.map Qe) (a:Int) (th l (S.getD v 0)) (th l u.1):=hp;rw [<-e]at Q6;have:=(oH v w hv).2 ⟨hw,Q6⟩;rw [hz,Nat.zero_testBit]at this;cases this
 rw [if_neg h1];by_cases h2:q=2
 ·rw [if_pos h2];intro v hv;rw [hl]at hv;have hs:lg=2\/lg=4\/lg=6:=by
   subst h2
   repeat' split at hq
   all_goals(simp at hq;try omega)
  exact(oH v v hv).2 ⟨hv,yF.refl hs ⟨S.getD v 0,Fb hv⟩⟩
 rw [if_neg h2];by_cases h4:q=4
 ·rw [if_pos h4];have hs:3<=lg/\lg<=6:=by
   subst h4
   repeat' split at hq
   all_goals(simp at hq;try omega)
  intro w u hw hu JK;show Js (r.getD u 0) (r.getD w 0)=true;rw [Yb];rw [hl]at hw hu;intro v hv;obtain⟨_,p1⟩:=(oH w u hw).1 JK;obtain⟨iA,p2⟩:=(oH u v hu).1 hv;exact(oH w v hw).2 ⟨iA,yF.trans hs ⟨S.getD w 0,Fb hw⟩ ⟨S.getD u 0,Fb hu⟩ ⟨S.getD v 0,Fb iA⟩ p1 p2⟩
 rw [if_neg h4];have hs:lg=5\/lg=6:=by
  have:q=5:=by omega
  subst this
  repeat' split at hq
  all_goals(simp at hq;try omega)
 intro w u hw hu JK;show Js (r.getD w 0) (r.getD u 0)=true;rw [Yb];rw [hl]at hw hu;intro v hv;obtain⟨_,p1⟩:=(oH w u hw).1 JK;obtain⟨iA,p2⟩:=(oH w v hw).1 hv;exact(oH u v hu).2 ⟨iA,yF.eucl hs ⟨S.getD w 0,Fb hw⟩ ⟨S.getD u 0,Fb hu⟩ ⟨S.getD v 0,Fb iA⟩ p1 p2⟩
end
theorem Nm {B:List Tr}(hB:Ei B):∀t:Tr,cov B t->lang t->t.all (fun n=>n.op=3->Tr.leaf n∈B)
 |.leaf _,h,_=>h
 |.one n a,h,hl=>by
  have h3:n.op=3->Tr.leaf n∈B:=fun e=>by rcases hl.1 with h1|h1 <;> omega
  by_cases h9:n.op=9
  ·have hm:.one n a∈B:=by simpa [cov,h9]using h
   obtain⟨_,hc,uN,_⟩:=hB.know n a hm;exact⟨h3,Nm hB a hc uN⟩
  have hc:cov B a:=by simpa [cov,h9]using h
  exact⟨h3,Nm hB a hc hl.2⟩
 |.two n a b,h,hl=>by
  have h3:n.op=3->Tr.leaf n∈B:=fun e=>by rcases hl.1 with h1|h1 <;> omega
  by_cases xK:n.op=13
  ·have hm:.two n a b∈B:=by simpa [cov,xK]using h
   obtain⟨_,qQ,sF,uN,kR,_⟩:=hB.com n a b hm;exact⟨h3,Nm hB a qQ uN,Nm hB b sF kR⟩
  have hc:cov B a/\cov B b:=by simpa [cov,xK]using h
  exact⟨h3,Nm hB a hc.1 hl.2.1,Nm hB b hc.2 hl.2.2⟩
theorem Wz {P Q R:Nd->Prop}(h:∀n,P n->Q n->R n):∀t:Tr,t.all P->t.all Q->t.all R
 |.leaf n,h1,h2=>h n h1 h2
 |.one n a,h1,h2=>⟨h n h1.1 h2.1,Wz h a h1.2 h2.2⟩
 |.two n a b,h1,h2=>⟨h n h1.1 h2.1,Wz h a h1.2.1 h2.2.1,Wz h b h1.2.2 h2.2.2⟩
theorem Ox:∀t:Tr,Wy t->t.ok->t.all (fun n=>n.op=3->n=⟨3,n.i,0,0,0,0⟩)
 |.leaf _,h,_=>h
 |.one n a,h,ho=>⟨fun e=>absurd (e▸ho.1) (by decide),Ox a h ho.2.2.2⟩
 |.two n a b,h,ho=>⟨fun e=>absurd (e▸ho.1) (by decide),Ox a h.1 ho.2.2.2.1,Ox b h.2 ho.2.2.2.2⟩
section
variable {lg:Int} {f:List Nd} {S:List Nat} {agents facts:Nat} {md:Md}
theorem Qi6(h:By lg f)(hF:Eb lg ((Qm f).1.map Qe) (fun t=>t∈S) (th (Qm f).1))(zG:∀u∈S,u < 2^(Qm f).1.length)
 (hm:Wp lg (Qm f).1 S agents facts md)(hA:Ya (Jr (Qg f))=agents)(G1:Ya (Yy (Qg f))=facts)(w:Fin md.n.toNat):
 (Gj md).sat (Qe f) w↔(Nx f).getD (S.getD w.1 0) false=true:=by
 have uM:md.n.toNat=S.length:=by rw [hm.n];exact Int.toNat_natCast _
 have wC:md.rel.length=agents:=by rw [hm.rel];simp
 have XF:∀v:Fin md.n.toNat,v.1 < S.length:=fun v=>by have:=v.2;omega
 have sB:=Qro h.ck;rw [hA,G1]at sB;have DX:(Va (Qe f)).all (InB agents facts):=Qqp _ sB;have aK:=Nm h.b.closed _ h.b.cov h.x.xp.lang;have oF:=Ox _ h.x.xp.fact h.x.xp.1.1
 let M:=Ry lg ((Qm f).1.map Qe) (fun t=>t∈S) (th (Qm f).1)
 let e:(Gj md).W->M.W:=fun v=>⟨S.getD v.1 0,Fb (XF v)⟩
 have CD:∀v:M.W,∃u,e u=v:=fun v=>by
  obtain⟨w,hw,e1⟩:=Qri v.2;exact⟨⟨w,by omega⟩,Subtype.ext e1⟩
 have hR:∀i:Int,0<=i/\i < agents->∀u v,(Gj md).R i u v↔M.R i (e u) (e v):=fun i hi u v=>by
  have eP:0<=i/\i < md.rel.length:=by omega
  show(if 0<=i/\i < md.rel.length then Et (md.rel.getD i.toNat []) md.n.toNat u v else u=v)↔Ti lg ((Qm f).1.map Qe) i (th (Qm f).1 (S.getD u.1 0)) (th (Qm f).1 (S.getD v.1 0));rw [if_pos eP];unfold Et;rw [hm.bit (by omega) (XF u),decide_eq_true (XF v),Bool.true_and,show((i.toNat:Nat):Int)=i by omega];exact Fi h.b (zG _ (Fb (XF v)))
 have hV:∀n:Nd,n.op=3->Tr.leaf n∈(Qm f).1.map Qe->n=⟨3,n.i,0,0,0,0⟩->0<=n.i->∀u,(Gj md).V n.i u↔M.V n.i (e u):=fun n h3 hn zQ h0 u=>by
  obtain⟨i,hg,hi,tC⟩:=Bg h.b hn;show(md.val.getD n.i.toNat 0).testBit u.1=true↔th (Qm f).1 (S.getD u.1 0) (.leaf ⟨3,n.i,0,0,0,0⟩)=true;rw [<-zQ,tC];have oG:(Qm f).1.getD i []= [n]:=by
   rw [Qk,hg];rfl
  have:=hm.fact i n.i.toNat hi (by rw [oG];exact h3) (by rw [oG,show((n.i.toNat:Nat):Int)=n.i by omega];rfl) u.1 (XF u);rw [this]
 have DK:(Va (Qe f)).all (Zzq (M:=M) e):=by
  refine Wz (P:=InB agents facts) (Q:=fun n=>(n.op=3->Tr.leaf n∈(Qm f).1.map Qe)/\(n.op=3->n=⟨3,n.i,0,0,0,0⟩)) (fun n h1 h2=>⟨fun ho=>hR n.i (h1.agent ho),fun _ i _ hg=>hR i ⟨by omega,by have:=h1.group i hg;omega⟩,fun h3=>hV n h3 (h2.1 h3) (h2.2 h3) (h1.fact h3).1⟩) _ DX (Wz (fun _ h1 h2=>⟨h1,h2⟩) _ aK oF)
 refine(Cx (M:=Gj md) (Qe f) w).symm.trans ((Qjr e CD _ DK w).trans ((Ey h.b.closed hF _ h.b.cov h.x.xp.lang h.x.xp.fact (e w)).symm.trans ?_));rw [Qvl h (zG _ (Fb (XF w)))]
end
theorem Qla {n:Nd}(h:Hz n.op) {i:Nat}(hi:(Vf n.op).toNat.testBit i=true):(15:Nat).testBit i=true:=by
 have hc:n.op=1\/n.op=2\/n.op=3\/n.op=4\/n.op=5\/n.op=6\/n.op=7\/n.op=8\/n.op=9\/n.op=10\/n.op=11\/n.op=13:=by unfold Hz at h;omega
 have zG:(Vf n.op).toNat < 2^4/\Js (Vf n.op).toNat 15=true:=by
  rcases hc with e|e|e|e|e|e|e|e|e|e|e|e <;>(rw [e];exact⟨by decide,by decide⟩)
 exact Yb.1 zG.2 i hi
theorem Qo1 {f:List Nd} {md:Md}(hc:check f=0)(hl:Dc f=false)(zT:Zq md=0)(hA:Ya (Jr (Qg f))=md.rel.length)(hF:Ya (Yy (Qg f))=md.val.length):Zi md (Qg f)=0:=by
 have wN:check (Qg f)=0:=(Xi hc);have h2:=Ud hc;have hs:Js (Jm (Qg f)) 15=true:=by
  rw [Yb];intro i hi;unfold Jm Vi at hi;rw [h2]at hi;rcases Qy2 _ _ _ hi with h|⟨n,hn,h⟩
  ·rw [Nat.zero_testBit]at h;cases h
  exact Qla (Cc hc hl n hn) h
 have hf:Yc (Qg f) md.rel.length md.val.length=true:=by
  unfold Yc;rw [Bool.and_eq_true,Bool.and_eq_true,List.all_eq_true,List.all_eq_true,h2];refine⟨by rw [wN];rfl,fun i _=> ?_,fun i _=> ?_⟩
  ·unfold Xj;rw [Bool.or_eq_true,decide_eq_true_iff];cases hb:(Jr (Qg f)).testBit i
   ·exact Or.inl rfl
   exact Or.inr (by rw [<-hA];exact Ka (Cj _) hb)
  unfold Xj;rw [Bool.or_eq_true,decide_eq_true_iff];cases hb:(Yy (Qg f)).testBit i
  ·exact Or.inl rfl
  exact Or.inr (by rw [<-hF];exact Ka (Cj _) hb)
 unfold Zi;rw [if_neg (by rw [zT];simp),if_neg (by rw [wN];simp),if_neg (by rw [hs];simp),if_neg (by rw [hf];simp)]
end Go.Proofs.YtkmclcmnoicagaaGreatDoor
