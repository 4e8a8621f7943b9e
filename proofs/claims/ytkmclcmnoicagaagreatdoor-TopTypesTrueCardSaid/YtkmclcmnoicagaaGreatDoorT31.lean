/- The number of a model: each model of few bits has one (plain). -/
import Derived.Test.YtkmclcmnoicagaaGreatDoorT30
namespace Go.Proofs.YtkmclcmnoicagaaGreatDoor
set_option maxRecDepth 100000
set_option maxHeartbeats 128000000
def Nq(n a v:Nat):Nat:=n*v+n*n*a
def Qza(n k j:Nat):Nat:=k / 2^(n*j) % 2^n
def Og(n a v k:Nat):Md:=⟨(n:Int),(List.range v).map fun j=>Qza n k j,(List.range a).map fun i=>(List.range n).map fun u=>Qza n k (v+(n*i+u))⟩
theorem Qa8(n k j b:Nat):(Qza n k j).testBit b=(decide (b < n)&&k.testBit (n*j+b)):=by
 unfold Qza;rw [Nat.testBit_mod_two_pow,Nat.testBit_div_two_pow,Nat.add_comm]
def Me(md:Md)(n v j:Nat):Nat:=if j < v then md.val.getD j 0 else(md.rel.getD ((j - v) / n) []).getD ((j - v) % n) 0
theorem Qei {md:Md} {n a v:Nat}(hck:Zy md=0)(hn:md.n=(n:Int))(ha:md.rel.length=a)(hv:md.val.length=v):∃k,k < 2^Nq n a v/\Og n a v k=md:=by
 obtain⟨h1,_,_,_,h5,_,_⟩:=Jv hck;obtain⟨h6,h7⟩:=Hg hck;have hn1:1<=n:=by omega
 have hnt:md.n.toNat=n:=by omega
 rw [hnt]at h6 h7;obtain⟨k,hk⟩:∃k,k=Kk (Nq n a v) (fun p=>(Me md n v (p / n)).testBit (p % n)):=⟨_,rfl⟩;have hdig:∀j,j < v+n*a->Me md n v j < 2^n->Qza n k j=Me md n v j:=fun j hj hlt=>by
  refine Nat.eq_of_testBit_eq fun b=> ?_
  rw [Qa8];by_cases hb:b < n
  ·rw [decide_eq_true hb,Bool.true_and,hk,Df];have e1:(n*j+b) / n=j:=by rw [Nat.mul_add_div hn1,Nat.div_eq_of_lt hb,Nat.add_zero]
   have e2:(n*j+b) % n=b:=by rw [Nat.mul_add_mod,Nat.mod_eq_of_lt hb]
   have e3:n*j+b < Nq n a v:=by
    unfold Nq;have h1:n*(j+1)<=n*(v+n*a):=Nat.mul_le_mul_left n hj;rw [Nat.mul_add,Nat.mul_add,Nat.mul_one,<-Nat.mul_assoc]at h1;omega
   rw [decide_eq_true e3,Bool.true_and,e1,e2]
  rw [decide_eq_false hb,Bool.false_and];exact(Nat.testBit_lt_two_pow (Qy hlt (Nat.pow_le_pow_right (by decide) (by omega)))).symm
 refine⟨k,by rw [hk];exact Bs _ _,?_⟩;obtain⟨mn,mv,mr⟩:=md;have hn':mn=(n:Int):=hn;have hv':mv.length=v:=hv;have ha':mr.length=a:=ha;subst hn';have ev:(List.range v).map (fun j=>Qza n k j)=mv:=by
  refine List.ext_getElem (by simp [hv']) fun j hj1 hj2=> ?_
  rw [List.getElem_map,List.getElem_range];have e:Me ⟨(n:Int),mv,mr⟩ n v j=mv[j]:=by
   unfold Me;rw [if_pos (by omega),Qk,Qv hj2];rfl
  rw [hdig j (by omega) (by rw [e];exact h6 _ (List.getElem_mem hj2)),e]
 have er:(List.range a).map (fun i=>(List.range n).map fun u=>Qza n k (v+(n*i+u)))=mr:=by
  refine List.ext_getElem (by simp [ha']) fun i hi1 hi2=> ?_
  rw [List.getElem_map,List.getElem_range];have hl:=h5 _ (List.getElem_mem hi2);have hl2:(mr[i]).length=n:=by
   have:(((mr[i]).length:Nat):Int)=(n:Int):=hl;omega
  refine List.ext_getElem (by simp [hl2]) fun u hu1 hu2=> ?_
  rw [List.getElem_map,List.getElem_range];have hun:u < n:=by omega
  have e:Me ⟨(n:Int),mv,mr⟩ n v (v+(n*i+u))=(mr[i])[u]:=by
   unfold Me;rw [if_neg (by omega),Nat.add_sub_cancel_left,Nat.mul_add_div hn1,Nat.div_eq_of_lt hun,Nat.add_zero,Nat.mul_add_mod,Nat.mod_eq_of_lt hun];show(mr.getD i []).getD u 0=_;rw [Qk (l:=mr),Qv hi2,Option.getD_some,Qk,Qv hu2];rfl
  have hlt:v+(n*i+u) < v+n*a:=by
   have h1:n*(i+1)<=n*a:=Nat.mul_le_mul_left n (by omega);rw [Nat.mul_add,Nat.mul_one]at h1;omega
  rw [hdig _ hlt (by rw [e];exact h7 _ (List.getElem_mem hi2) _ (List.getElem_mem hu2)),e]
 unfold Og;rw [ev,er]
def En(md:Md)(a v:Nat):Md:=⟨md.n,md.val.take v,md.rel.take a⟩
theorem Qp9 {f:List Nd}(hc:check f=0):Yg f (Ym (Jn (Qg f))) (Ym (Je (Qg f)))=true:=by
 unfold Yg;rw [Bool.and_eq_true,Bool.and_eq_true,List.all_eq_true,List.all_eq_true];refine⟨by rw [hc];rfl,fun i _=> ?_,fun i _=> ?_⟩
 ·unfold Kb;rw [Bool.or_eq_true,decide_eq_true_iff];cases hb:(Jn (Qg f)).testBit i
  ·exact Or.inl rfl
  exact Or.inr (Vm (Li _) hb)
 unfold Kb;rw [Bool.or_eq_true,decide_eq_true_iff];cases hb:(Je (Qg f)).testBit i
 ·exact Or.inl rfl
 exact Or.inr (Vm (Li _) hb)
theorem Qdr {f:List Nd} {a b:Nat}(hc:check f=0)(h:Yg f a b=true):Ym (Jn (Qg f))<=a/\Ym (Je (Qg f))<=b:=by
 have hh:=(Jf hc).2.2.2;unfold Yg at h;rw [Bool.and_eq_true,Bool.and_eq_true,List.all_eq_true,List.all_eq_true]at h;have hA:=Ni (Qg f) 0 hh (by decide);have hF:=Ss (Qg f) 0 hh (by decide);refine⟨Qdw (Nat.lt_pow_two_of_testBit _ fun i hi=> ?_),Qdw (Nat.lt_pow_two_of_testBit _ fun i hi=> ?_)⟩
 ·cases hb:(Jn (Qg f)).testBit i
  ·rfl
  have h4:=Vm hA hb;have:=h.2.1 i (List.mem_range.2 h4);unfold Kb at this;rw [hb,decide_eq_false (by omega)]at this;cases this
 cases hb:(Je (Qg f)).testBit i
 ·rfl
 have h4:=Vm hF hb;have:=h.2.2 i (List.mem_range.2 h4);unfold Kb at this;rw [hb,decide_eq_false (by omega)]at this;cases this
theorem Bw.red {lg:Int} {f:List Nd} {md:Md} {k:Nat}(h:Bw lg f md k):Bw lg f (En md (Ym (Jn (Qg f))) (Ym (Je (Qg f)))) k:=by
 obtain⟨hck,hc,hs,hf⟩:=Ya h.ck;obtain⟨hA,hF⟩:=Qdr hc hf;have hfl:=Qp9 hc;obtain⟨A,hA1⟩:∃A,A=Ym (Jn (Qg f)):=⟨_,rfl⟩;obtain⟨F,hF1⟩:∃F,F=Ym (Je (Qg f)):=⟨_,rfl⟩;rw [<-hA1]at hA hfl⊢;rw [<-hF1]at hF hfl⊢;obtain⟨h1,h2,h3,h4,h5,_,_⟩:=Jv hck;obtain⟨h6,h7⟩:=Hg hck;have hrl:(En md A F).rel.length=A:=by show(md.rel.take A).length=A;rw [List.length_take];omega
 have hvl:(En md A F).val.length=F:=by show(md.val.take F).length=F;rw [List.length_take];omega
 have hck2:Zy (En md A F)=0:=Qv0 h1 h2 (by omega) (by omega) (fun r hr=>h5 r (List.mem_of_mem_take hr)) (fun s hs=>h6 s (List.mem_of_mem_take hs)) (fun r hr=>h7 r (List.mem_of_mem_take hr));have hch:Jr (En md A F) f=0:=by
  unfold Jr;rw [if_neg (by rw [hck2];simp),if_neg (by rw [hc];simp),if_neg (by rw [hs];simp),hrl,hvl,if_neg (by rw [hfl];simp)]
 have hE:Emb (Kd (En md A F)) (Kd md) A F (fun i:Fin md.n.toNat=>i):=by
  refine⟨fun i h0 h1 u=> ?_,fun i h0 h1 u v=> ?_,fun i h0 h1 u y _=>⟨y,rfl⟩⟩
  ·show((md.val.take F).getD i.toNat 0).testBit u.1=true↔(md.val.getD i.toNat 0).testBit u.1=true;rw [Qk,List.getElem?_take,if_pos (by omega),Qk]
  obtain⟨a,rfl⟩:=Int.eq_ofNat_of_zero_le h0;have ha:a < A:=by omega
  refine(kmR (md:=En md A F) (show a < (En md A F).rel.length by omega) u v).trans (Iff.trans ?_ (kmR (md:=md) (by omega) u v).symm);show((((md.rel.take A).getD a []).getD u.1 0).testBit v.1=true)↔((md.rel.getD a []).getD u.1 0).testBit v.1=true;rw [show(md.rel.take A).getD a []=md.rel.getD a [] by rw [Qk,List.getElem?_take,if_pos ha,Qk]]
 refine⟨hch,h.lt,(Hi hck2 h.good.lgr).2 fun a ha=> ?_,fun w hw=> ?_⟩
 ·rw [hrl]at ha;exact hE.frm (by omega) (by omega) ((Hi hck h.good.lgr).1 h.good a (by omega))
 have:=Qdk hch;rw [hrl,hvl]at this;exact(hE.sat _ this w).2 (h.sat w hw)
theorem Bw.num {lg:Int} {f:List Nd} {md:Md} {k:Nat}(h:Bw lg f md k):
 ∃j,j < 2^Nq md.n.toNat (Ym (Jn (Qg f))) (Ym (Je (Qg f)))/\Bw lg f (Og md.n.toNat (Ym (Jn (Qg f))) (Ym (Je (Qg f))) j) 0:=by
 obtain⟨hck,hc,hs,hf⟩:=Ya h.ck;obtain⟨h1,h2,_⟩:=Jv hck;have hk:=h.lt;obtain⟨ws,hws⟩:∃ws,ws=(List.range md.n.toNat).map (fun i=>if i=0 then k else if i=k then 0 else i):=⟨_,rfl⟩;have hlen:ws.length=md.n.toNat:=by rw [hws,List.length_map,List.length_range]
 have hmem:∀u,u < md.n.toNat->u∈ws:=fun u hu=>by
  rw [hws,List.mem_map];by_cases e:u=k
  ·exact⟨0,List.mem_range.2 (by omega),by rw [if_pos rfl,e]⟩
  by_cases e0:u=0
  ·exact⟨k,List.mem_range.2 hk,by rw [if_neg (by omega),if_pos rfl,e0]⟩
  exact⟨u,List.mem_range.2 hu,by rw [if_neg e0,if_neg e]⟩
 have hlt:∀w∈ws,w < md.n.toNat:=fun u hu=>by
  rw [hws,List.mem_map]at hu;obtain⟨i,hi,rfl⟩:=hu;have:=List.mem_range.1 hi
  split
  ·exact hk
  split <;> omega
 have hj0:ws[0]?=some k:=by
  rw [hws,List.getElem?_map,List.getElem?_range (by omega)];rfl
 have h3:=(h.part hlt (fun a _ u _ v hv=>hmem v (Dt hck a u v hv).2) (by omega) hj0).red;have hfa:=Qdr hc hf
 obtain⟨j,hj,e⟩:=Qei (md:=En (Gq md ws) (Ym (Jn (Qg f))) (Ym (Je (Qg f)))) (n:=md.n.toNat) (a:=Ym (Jn (Qg f))) (v:=Ym (Je (Qg f))) h3.good.ck (by show(ws.length:Int)=_;rw [hlen])
  (by show((Gq md ws).rel.take _).length=_;rw [List.length_take,show(Gq md ws).rel.length=md.rel.length by simp [Gq]];omega)
  (by show((Gq md ws).val.take _).length=_;rw [List.length_take,show(Gq md ws).val.length=md.val.length by simp [Gq]];omega)
 exact⟨j,hj,by rw [e];exact h3⟩
theorem Pb:∀(m:Nat) (l:List Nat),l.Nodup->(∀u∈l,u < m)->l.length<=m
 |0,l,_,h=>by
  cases l with
  |nil=>simp
  |cons a r=>have:=h a (List.mem_cons_self ..);omega
 |m+1,l,hn,h=>by
  by_cases hm:m∈l
  ·have h1:=Pb m (l.erase m) (hn.erase m) (fun u hu=>by
    have h2:=List.mem_of_mem_erase hu;have h3:=h u h2;have h4:u≠m:=fun e=>by
     subst e;exact absurd hu (hn.not_mem_erase)
    omega)
   rw [List.length_erase_of_mem hm]at h1;omega
  have:=Pb m l hn (fun u hu=>by
   have h3:=h u hu;have h4:u≠m:=fun e=>hm (e▸hu)
   omega)
  omega
structure Bfs (step:Nat->Nat->Bool) (m t:Nat) (q ps:List Nat):Prop where
 len:ps.length=q.length
 head:q[0]?=some t
 lt:∀u∈q.tail,u < m
 nd:q.tail.Nodup
 par:∀j,1<=j->j < q.length->ps.getD j 0 < j/\step (q.getD (ps.getD j 0) 0) (q.getD j 0)=true
section
variable {step:Nat->Nat->Bool} {m t:Nat} {q ps:List Nat}
theorem Bfs.start(step:Nat->Nat->Bool)(m t:Nat):Bfs step m t [t] [0]:=⟨rfl,rfl,by simp,by simp,fun j h1 h2=>by simp at h2;omega⟩
theorem Bfs.pos(h:Bfs step m t q ps):0 < q.length:=(List.getElem?_eq_some_iff.1 h.head).1
theorem Bfs.qlen(h:Bfs step m t q ps):q.length<=m+1:=by
 have:=Pb m q.tail h.nd h.lt;rw [List.length_tail]at this;omega
theorem Dk {l:List Nat} {x j:Nat}(h:j < l.length):(l++ [x]).getD j 0=l.getD j 0:=by
 rw [Qk,List.getElem?_append_left h,Qk]
theorem Rv {l:List Nat} {x:Nat} :(l++ [x]).getD l.length 0=x:=by simp
theorem Tz {l:List Nat} {x:Nat}(h:0 < l.length):(l++ [x]).tail=l.tail++ [x]:=by
 cases l with
 |nil=>simp at h
 |cons a r=>rfl
theorem Bfs.push(h:Bfs step m t q ps) {i u:Nat}(hi:i < q.length)(hu:u < m)(hn:u∉q.tail)(hs:step (q.getD i 0) u=true):Bfs step m t (q++ [u]) (ps++ [i]):=by
 have hp:=h.pos;refine⟨by simp [h.len],?_,?_,?_,fun j h1 h2=> ?_⟩
 ·rw [List.getElem?_append_left hp];exact h.head
 ·rw [Tz hp];intro x hx;rcases List.mem_append.1 hx with hx|hx
  ·exact h.lt x hx
  rw [List.mem_singleton.1 hx];exact hu
 ·rw [Tz hp,List.nodup_append];exact⟨h.nd,by simp,fun a ha b hb e=>hn (by rw [List.mem_singleton.1 hb]at e;exact e▸ha)⟩
 by_cases hj:j < q.length
 ·have:=h.par j h1 hj;rw [Dk (by rw [h.len];exact hj),Dk hj,Dk (by omega)];exact this
 have e:j=q.length:=by simp at h2;omega
 subst e;have e2:(ps++ [i]).getD q.length 0=i:=by rw [<-h.len];exact Rv
 rw [e2,Rv,Dk hi];exact⟨hi,hs⟩
theorem Qz9 {l:List Nat} {j:Nat}(h1:1<=j)(h2:j < l.length):l.getD j 0∈l.tail:=by
 cases l with
 |nil=>simp at h2
 |cons a r =>
  obtain⟨k,rfl⟩:∃k,j=k+1:=⟨j - 1,by omega⟩;have hk:k < r.length:=by simpa using h2
  rw [Qk,List.getElem?_cons_succ,Qv hk];exact List.getElem_mem hk
theorem Bfs.reach(h:Bfs step m t q ps):∀j,1<=j->j < q.length->Rch (fun a b=>step a b=true) t (q.getD j 0):=by
 intro j
 induction j using Nat.strongRecOn with
 |_ j ih =>
  intro h1 h2;obtain⟨hp,hs⟩:=h.par j h1 h2;by_cases h0:ps.getD j 0=0
  ·rw [h0]at hs;have e:q.getD 0 0=t:=by rw [Qk,h.head];rfl
   rw [e]at hs;exact .one hs
  exact(ih _ hp (by omega) (by omega)).snoc hs
theorem Bfs.closed(h:Bfs step m t q ps)(hc:∀j,j < q.length->∀u,step (q.getD j 0) u=true->u∈q.tail) {u:Nat}(hr:Rch (fun a b=>step a b=true) t u):u∈q.tail:=by
 have key:∀a b,Rch (fun a b=>step a b=true) a b->(∃j,j < q.length/\q.getD j 0=a)->b∈q.tail:=by
  intro a b hab
  induction hab with
  |one h1 =>
   rintro⟨j,hj,rfl⟩;exact hc j hj _ h1
  |cons h1 _ ih =>
   rintro⟨j,hj,rfl⟩;refine ih ?_;have hm:=hc j hj _ h1;obtain⟨k,hk,e⟩:=List.getElem_of_mem hm;rw [List.length_tail]at hk;refine⟨k+1,by omega,?_⟩;rw [List.getElem_tail]at e;rw [Qk,List.getElem?_eq_getElem (by omega)];exact e
 exact key t u hr ⟨0,h.pos,by rw [Qk,h.head];rfl⟩
end
def Mo(step:Nat->Nat->Bool)(t:Nat):List Nat->Prop
 |[]=>True
 |[u]=>step t u=true
 |u :: v :: r=>step v u=true/\Mo step t (v :: r)
theorem Qyn {step:Nat->Nat->Bool} {t:Nat} :∀(l:List Nat) (u:Nat),(∀a,Mo step a l->step t u=true->a=u->Mo step t (l++ [u]))
 |[],u=>fun _ _ h _=>h
 |[v],u=>fun a h1 h2 e=>by subst e;exact⟨h1,h2⟩
 |v :: x :: r,u=>fun a h1 h2 e=>⟨h1.1,Qyn (x :: r) u a h1.2 h2 e⟩
def Bp(l:List Nat)(i:Int):List Nat:=if 0<=i/\i.toNat∉l then l++ [i.toNat]else l
def Tv(lg:Int)(ks:List Kn)(l:List Nat)(t:Nat)(k:Kn):Prop:=t.testBit k.place=false->∃u,u∈l/\k.holds.getD u false=false/\Ze lg ks k.agent t u=true
def Ty(lg:Int)(ks:List Kn)(al:List Bool)(l:List Nat)(t:Nat)(c:Cm):Prop:=t.testBit c.place=false->∃u,Rch (fun a b=>Tb lg ks al c a b=true/\b∈l) t u/\c.y.getD u false=false
def Ly(lg:Int)(ks:List Kn)(l:List Nat)(t a:Nat):Prop:=lg=1\/lg=5->∃u,u∈l/\Ze lg ks (a:Int) t u=true
structure Sel (lg:Int) (ks:List Kn) (cs:List Cm) (al:List Bool) (agents:Nat) (l:List Nat) (t:Nat):Prop where
 know:∀k∈ks,Tv lg ks l t k
 com:∀c∈cs,Ty lg ks al l t c
 ser:∀a,a < agents->Ly lg ks l t a
structure Kz (al:List Bool) (l l':List Nat):Prop where
 pre:l <+: l'
 nd:l.Nodup->l'.Nodup
 al:(∀u∈l,al.getD u false=true)->∀u∈l',al.getD u false=true
section
variable {lg:Int} {ks:List Kn} {cs:List Cm} {al:List Bool} {agents:Nat} {l l' l'':List Nat} {t:Nat}
theorem Kz.refl:Kz al l l:=⟨List.prefix_refl _,id,id⟩
theorem Kz.trans(h:Kz al l l')(k:Kz al l' l''):Kz al l l'':=⟨h.pre.trans k.pre,fun e=>k.nd (h.nd e),fun e=>k.al (h.al e)⟩
theorem Kz.sub(h:Kz al l l'):∀u∈l,u∈l':=fun _ hu=>h.pre.subset hu
theorem Kz.get(h:Kz al l l') {k:Nat}(hk:k < l.length):l'.getD k 0=l.getD k 0:=by
 obtain⟨r,rfl⟩:=h.pre;rw [Qk,Qk,List.getElem?_append_left hk]
theorem Tv.mono {k:Kn}(h:Tv lg ks l t k)(hs:∀u∈l,u∈l'):Tv lg ks l' t k:=fun ht=>by
 obtain⟨u,h1,h2⟩:=h ht;exact⟨u,hs u h1,h2⟩
theorem Ty.mono {c:Cm}(h:Ty lg ks al l t c)(hs:∀u∈l,u∈l'):Ty lg ks al l' t c:=fun ht=>by
 obtain⟨u,h1,h2⟩:=h ht;exact⟨u,h1.mono (fun a b hb=>⟨hb.1,hs b hb.2⟩),h2⟩
theorem Ly.mono {a:Nat}(h:Ly lg ks l t a)(hs:∀u∈l,u∈l'):Ly lg ks l' t a:=fun ht=>by
 obtain⟨u,h1,h2⟩:=h ht;exact⟨u,hs u h1,h2⟩
theorem Sel.mono(h:Sel lg ks cs al agents l t)(hs:∀u∈l,u∈l'):Sel lg ks cs al agents l' t :=
 ⟨fun k hk=>(h.know k hk).mono hs,fun c hc=>(h.com c hc).mono hs,fun a ha=>(h.ser a ha).mono hs⟩
theorem Qx3 {i:Int}(h0:0<=i):i.toNat∈Bp l i:=by
 unfold Bp;by_cases h:i.toNat∈l
 ·rw [if_neg (fun e=>e.2 h)];exact h
 rw [if_pos ⟨h0,h⟩];simp
theorem Qve {i:Int}(h:0<=i->al.getD i.toNat false=true):Kz al l (Bp l i):=by
 unfold Bp;by_cases h1:0<=i/\i.toNat∉l
 ·rw [if_pos h1];refine⟨List.prefix_append _ _,fun hn=> ?_,fun ha u hu=> ?_⟩
  ·rw [List.nodup_append];exact⟨hn,by simp,fun a ha b hb e=>h1.2 (by rw [List.mem_singleton.1 hb]at e;rwa [<-e])⟩
  rcases List.mem_append.1 hu with hu|hu
  ·exact ha u hu
  rw [List.mem_singleton.1 hu];exact h h1.1
 rw [if_neg h1];exact Kz.refl
theorem Qb8 {i:Int}(h:¬(0<=i/\i.toNat∉l)):Bp l i=l:=if_neg h
theorem Qpx {i:Int}(h0:0<=i)(h:i.toNat∉l):Bp l i=l++ [i.toNat]:=if_pos ⟨h0,h⟩
def Ma(lg:Int)(ks:List Kn)(al:List Bool)(a:Int)(t:Nat)(wanted:Nat->Bool)(l:List Nat):List Nat :=
 if l.any (fun u=>wanted u&&Ze lg ks a t u)then l else Bp l (Xq lg ks al a t wanted)
theorem Qfq {a:Int} {wanted:Nat->Bool}(h:0<=Xq lg ks al a t wanted):Xz lg ks al a t wanted (Xq lg ks al a t wanted).toNat=true:=by
 unfold Xq at h⊢;cases e:(List.range al.length).find? (Xz lg ks al a t wanted)with
 |none=>rw [e]at h;simp at h
 |some k =>
  obtain⟨h1,_,_⟩:=List.find?_range_eq_some.1 e
  simpa using h1
theorem Qf6 {a:Int} {wanted:Nat->Bool} :Kz al l (Ma lg ks al a t wanted l):=by
 unfold Ma
 split
 ·exact Kz.refl
 refine Qve fun h0=> ?_
 have:=Qfq h0;unfold Xz at this;rw [Bool.and_eq_true]at this;exact this.1
theorem Qnf {a:Int} {wanted:Nat->Bool}(h:0<=Xq lg ks al a t wanted):∃u,u∈Ma lg ks al a t wanted l/\wanted u=true/\Ze lg ks a t u=true:=by
 unfold Ma
 split
 ·rename_i h1;rw [List.any_eq_true]at h1;obtain⟨u,hu,h2⟩:=h1;rw [Bool.and_eq_true]at h2;exact⟨u,hu,h2⟩
 have:=Qfq h;unfold Xz at this;rw [Bool.and_eq_true,Bool.and_eq_true]at this;exact⟨_,Qx3 h,this.2⟩
def By(l ls:List Nat):List Nat:=ls.foldl (fun o (u:Nat)=>Bp o (u:Int)) l
theorem Qq0:∀(ls l:List Nat),(∀u∈ls,al.getD u false=true)->Kz al l (By l ls)
 |[],_,_=>Kz.refl
 |a :: r,l,h=>(Qve (fun _=>by rw [Int.toNat_natCast];exact h a (List.mem_cons_self ..))).trans (Qq0 r _ (fun u hu=>h u (List.mem_cons_of_mem _ hu)))
theorem Qji:∀(ls l:List Nat) (u:Nat),u∈ls\/u∈l->u∈By l ls
 |[],_,_,h=>by rcases h with h|h;· cases h
               ·exact h
 |a :: r,l,u,h=>by
  have hs:∀v,v∈l->v∈Bp l (a:Int):=fun v hv=>by
   unfold Bp;split
   ·exact List.mem_append.2 (Or.inl hv)
   exact hv
  refine Qji r _ u ?_;rcases h with h|h
  ·rcases List.mem_cons.1 h with rfl|h
   ·exact Or.inr (by have:=Qx3 (l:=l) (i:=(u:Int)) (by omega);rwa [Int.toNat_natCast]at this)
   exact Or.inl h
  exact Or.inr (hs u h)
theorem Qkv {step:Nat->Nat->Bool} {t:Nat} :∀(ls:List Nat) (u:Nat),ls[0]?=some u->Mo step t ls->Rch (fun a b=>step a b=true/\b∈ls) t u
 |[],_,h,_=>by cases h
 |[v],u,h,hl=>by
  obtain rfl:v=u:=by simpa using h
  exact .one ⟨hl,List.mem_singleton.2 rfl⟩
 |a :: b :: r,u,h,hl=>by
  obtain rfl:a=u:=by simpa using h
  have ih:=Qkv (b :: r) b rfl hl.2;exact(ih.mono (fun x y hxy=>⟨hxy.1,List.mem_cons_of_mem _ hxy.2⟩)).snoc ⟨hl.1,List.mem_cons_self ..⟩
theorem Qky {step:Nat->Nat->Bool} {t:Nat} :∀(ls:List Nat),Mo step t ls->∀u∈ls,∃a,step a u=true
 |[],_,u,h=>by cases h
 |[v],hl,u,h=>by rw [List.mem_singleton.1 h];exact⟨t,hl⟩
 |a :: b :: r,hl,u,h=>by
  rcases List.mem_cons.1 h with rfl|h
  ·exact⟨b,hl.1⟩
  exact Qky (b :: r) hl.2 u h
theorem Qwd {c:Cm} {a u:Nat}(h:Tb lg ks al c a u=true):al.getD u false=true:=by
 unfold Tb at h;rw [Bool.and_eq_true]at h;exact h.1
end
section
variable {l:List (List Nd)} {t0:Tr} (hB:Rl l t0) {lg:Int}
include hB
theorem Qcz {al:List Bool} {agents:Nat} {S:List Nat}(hl:al.length=2^l.length)(hS:∀u∈S,al.getD u false=true)(hc:∀t,al.getD t false=true->Ys lg (Zg l) (Zc l) t=true)
 (hw:∀t∈S,Sel lg (Zg l) (Zc l) al agents S t)(hag:∀n a,.one n a∈l.map Ql->n.i < (agents:Int)):Pc lg (l.map Ql) (fun t=>t∈S) (th l) where
 coh t ht:=(Qvv hB (hl▸Kt (hS t ht))).1 (hc t (hS t ht))
 ser hs t ht i ho:=by
  obtain⟨n,a,hm,hi⟩:=ho;obtain⟨_,_,_,h0,h4⟩:=hB.closed.know n a hm;have h1:=hag n a hm;obtain⟨u,hu,hp⟩:=(hw t ht).ser i.toNat (by omega) hs;rw [show((i.toNat:Nat):Int)=i by omega]at hp;exact⟨u,hu,(Ua hB (hl▸Kt (hS u hu))).1 hp⟩
 know t ht n a hm hf:=by
  obtain⟨j,hg,hj,hth⟩:=Fj hB hm;obtain⟨u,hu,h2,hp⟩:=(hw t ht).know _ ((Xc hB).2 ⟨j,n,a,hm,hg,rfl⟩) (by rw [<-hth];exact hf);have hul:u < 2^l.length:=hl▸Kt (hS u hu);exact⟨u,hu,by rw [<-Sp hB hm hul];exact h2,(Ua hB hul).1 hp⟩
 com t ht n a b hm hf:=by
  obtain⟨j,hg,hj,hth⟩:=Fj hB hm;obtain⟨u,hr,hy⟩:=(hw t ht).com _ ((Dz hB).2 ⟨j,n,a,b,hm,hg,rfl⟩) (by rw [<-hth];exact hf);have hr':Rch (Lp lg (l.map Ql) (fun t=>t∈S) (th l) n.g a) t u:=hr.mono (fun x y hxy=>⟨hxy.2,((Qjl hB hl hm x y).1 hxy.1).2⟩);have hul:u∈S:=by
   have key:∀x y,Rch (Lp lg (l.map Ql) (fun t=>t∈S) (th l) n.g a) x y->y∈S:=by
    intro x y hxy
    induction hxy with
    |one h=>exact h.1
    |cons _ _ ih=>exact ih
   exact key t u hr'
  exact⟨u,hr',by rw [<-(Wb hB hm (hl▸Kt (hS u hul))).2];exact hy⟩
end
structure Qxn (lg:Int) (ks:List Kn) (cs:List Cm) (al:List Bool) (t:Nat):Prop where
 know:∀k∈ks,t.testBit k.place=false->0<=Xq lg ks al k.agent t (fun u=> !k.holds.getD u false)
 com:∀c∈cs,t.testBit c.place=false->Ld lg ks al c t=true
 ser:lg=1\/lg=5->∀a:Nat,a < 4->0<=Xq lg ks al (a:Int) t (fun _=>true)
theorem Qea {lg:Int} {ks:List Kn} {al:List Bool} {a:Int} {t u:Nat} {wanted:Nat->Bool}(h:Xz lg ks al a t wanted u=true):0<=Xq lg ks al a t wanted:=by
 refine Int.not_lt.1 fun hn=> ?_
 have hu:al.getD u false=true:=by
  unfold Xz at h;rw [Bool.and_eq_true]at h;exact h.1
 rw [Mn.1 hn u (Kt hu)]at h;cases h
section
variable {l:List (List Nd)} {t0:Tr} (hB:Rl l t0) {lg:Int}
include hB
theorem Qct {al:List Bool}(hw:∀t,al.getD t false=true->∀i:Int,-4<=i->i < l.length->Yy lg (Zg l) (Zc l) al t i=false) {t:Nat}(ht:al.getD t false=true):Qxn lg (Zg l) (Zc l) al t where
 know k hk hf:=by
  obtain⟨j,n,a,hm,hg,rfl⟩:=(Xc hB).1 hk;have hj:j < l.length:=(List.getElem?_eq_some_iff.1 hg).1;have h:=hw t ht (j:Int) (by omega) (by omega);unfold Yy at h;rw [decide_eq_false (show ¬(j:Int) < 0 by omega),cond_false,Qdh hB hm hg]at h;simp only [Int.toNat_natCast]at h;rw [show t.testBit j=false from hf,Bool.not_false,Bool.true_and,decide_eq_false_iff_not]at h;exact Int.not_lt.1 h
 com c hc hf:=by
  obtain⟨j,n,a,b,hm,hg,rfl⟩:=(Dz hB).1 hc;have hj:j < l.length:=(List.getElem?_eq_some_iff.1 hg).1;have h:=hw t ht (j:Int) (by omega) (by omega);unfold Yy at h;rw [decide_eq_false (show ¬(j:Int) < 0 by omega),cond_false,Qda hB hm hg,Qdx hB hm hg]at h;simp only [Int.toNat_natCast]at h;rw [show t.testBit j=false from hf,Bool.not_false,Bool.true_and]at h
  simpa using h
 ser hs a ha:=by
  by_cases hany:(Zg l).any (fun k=>k.agent==(a:Int))=true
  ·have h:=hw t ht (-1 - (a:Int)) (by omega) (by omega);unfold Yy at h;rw [decide_eq_true (show -1 - (a:Int) < 0 by omega),cond_true,show -1 - (-1 - (a:Int))=a by omega,hany]at h;have hlg:(lg==1||lg==5)=true:=by rcases hs with e|e <;> rw [e] <;> rfl
   rw [hlg,Bool.true_and,Bool.true_and,decide_eq_false_iff_not]at h;exact Int.not_lt.1 h
  refine Qea (u:=t) ?_;unfold Xz;rw [ht,Bool.true_and,Bool.true_and];unfold Ze;rw [List.all_eq_true];intro k hk;have:¬(k.agent==(a:Int))=true:=fun e=>hany (List.any_eq_true.2 ⟨k,hk,e⟩)
  have:(k.agent !=(a:Int))=true:=by unfold bne;rw [Bool.not_eq_true]at this;rw [this];rfl
  rw [this,Bool.true_or]
end
theorem Qtp {lg:Int} {f:List Nd}(h:Uo lg f) {t:Nat}(ht:(Xe lg f).1.getD t false=true):Qxn lg (Zg (Qn f).1) (Zc (Qn f).1) (Xe lg f).1 t:=by
 refine Qct h.b (fun t ht i h0 h1=> ?_) ht;have:=Qzo (why:=Nj lg (Zg (Qn f).1) (Zc (Qn f).1) (Qn f).1.length) ((Yf lg (Qn f).1).length+1) (Yf lg (Qn f).1,[]) (by have:=Qj7 (Yf lg (Qn f).1);show cnt (Yf lg (Qn f).1) < _;omega) t ht;exact Qk1 this i h0 h1
theorem Qa9 {lg:Int} {f:List Nd}(t:Nat)(ht:(Xe lg f).1.getD t false=true):Ys lg (Zg (Qn f).1) (Zc (Qn f).1) t=true:=by
 have hs:=Qgs (Nj lg (Zg (Qn f).1) (Zc (Qn f).1) (Qn f).1.length) _ (Yf lg (Qn f).1,[]) t ht;have hl:=Kt hs;rw [Bi]at hl;rw [<-Wj hl];exact hs
theorem Qcq {lg:Int} {f:List Nd}(h:Uo lg f) {agents:Nat} {S:List Nat}(hS:∀u∈S,(Xe lg f).1.getD u false=true)
 (hw:∀t∈S,Sel lg (Zg (Qn f).1) (Zc (Qn f).1) (Xe lg f).1 agents S t)(hag:∀n a,.one n a∈(Qn f).1.map Ql->n.i < (agents:Int)):Pc lg ((Qn f).1.map Ql) (fun t=>t∈S) (th (Qn f).1):=
 Qcz h.b Rj hS Qa9 hw hag
section
variable {M N:KM} (e:N.W->M.W)
structure Qor (n:Nd):Prop where
 agent:n.op=9\/n.op=10->∀u v,N.R n.i u v↔M.R n.i (e u) (e v)
 group:n.op=11\/n.op=12\/n.op=13->∀i:Nat,i < 4->Yl n.g i=true->∀u v,N.R (i:Int) u v↔M.R (i:Int) (e u) (e v)
 fact:n.op=3->∀u,N.V n.i u↔M.V n.i (e u)
theorem Qqg(hs:∀v,∃u,e u=v):∀(t:Tr),t.all (Qor e)->∀u,N.sat t u↔M.sat t (e u)
 |.leaf n,h,u=>by
  show(n.op=1\/(n.op=3/\N.V n.i u))↔(n.op=1\/(n.op=3/\M.V n.i (e u)));refine or_congr Iff.rfl ⟨fun⟨h1,h2⟩=>⟨h1,(h.fact h1 u).1 h2⟩,fun⟨h1,h2⟩=>⟨h1,(h.fact h1 u).2 h2⟩⟩
 |.one n a,h,u=>by
  have ih:=Qqg hs a h.2;unfold KM.sat;by_cases h4:n.op=4
  ·rw [if_pos h4,if_pos h4,ih u]
  rw [if_neg h4,if_neg h4];by_cases h9:n.op=9
  ·rw [if_pos h9,if_pos h9];constructor
   ·intro k v hv;obtain⟨v',rfl⟩:=hs v;exact(ih v').1 (k v' ((h.1.agent (.inl h9) u v').2 hv))
   intro k v hv;exact(ih v).2 (k (e v) ((h.1.agent (.inl h9) u v).1 hv))
  rw [if_neg h9,if_neg h9];by_cases h10:n.op=10
  ·rw [if_pos h10,if_pos h10];constructor
   ·rintro⟨v,hv,k⟩;exact⟨e v,(h.1.agent (.inr h10) u v).1 hv,(ih v).1 k⟩
   rintro⟨v,hv,k⟩;obtain⟨v',rfl⟩:=hs v;exact⟨v',(h.1.agent (.inr h10) u v').2 hv,(ih v').2 k⟩
  rw [if_neg h10,if_neg h10];by_cases h11:n.op=11
  ·rw [if_pos h11,if_pos h11];constructor
   ·intro k i hi hg v hv;obtain⟨v',rfl⟩:=hs v;exact(ih v').1 (k i hi hg v' ((h.1.group (.inl h11) i hi hg u v').2 hv))
   intro k i hi hg v hv;exact(ih v).2 (k i hi hg (e v) ((h.1.group (.inl h11) i hi hg u v).1 hv))
  rw [if_neg h11,if_neg h11];by_cases h12:n.op=12
  ·rw [if_pos h12,if_pos h12];constructor
   ·intro k v hv;obtain⟨v',rfl⟩:=hs v;exact(ih v').1 (k v' fun i hi hg=>(h.1.group (.inr (.inl h12)) i hi hg u v').2 (hv i hi hg))
   intro k v hv;exact(ih v).2 (k (e v) fun i hi hg=>(h.1.group (.inr (.inl h12)) i hi hg u v).1 (hv i hi hg))
  rw [if_neg h12,if_neg h12]
 |.two n a b,h,u=>by
  have iha:=Qqg hs a h.2.1;have ihb:=Qqg hs b h.2.2;unfold KM.sat;by_cases h5:n.op=5
  ·rw [if_pos h5,if_pos h5,iha u,ihb u]
  rw [if_neg h5,if_neg h5];by_cases h6:n.op=6
  ·rw [if_pos h6,if_pos h6,iha u,ihb u]
  rw [if_neg h6,if_neg h6];by_cases h7:n.op=7
  ·rw [if_pos h7,if_pos h7,iha u,ihb u]
  rw [if_neg h7,if_neg h7];by_cases h8:n.op=8
  ·rw [if_pos h8,if_pos h8,iha u,ihb u]
  rw [if_neg h8,if_neg h8];by_cases h13:n.op=13
  ·rw [if_pos h13,if_pos h13];have hst:∀x y,N.step n.g (N.sat a) x y↔M.step n.g (M.sat a) (e x) (e y):=fun x y=>by
    unfold KM.step;rw [iha y];refine and_congr ⟨?_,?_⟩ Iff.rfl
    ·rintro⟨i,hi,hg,hr⟩;exact⟨i,hi,hg,(h.1.group (.inr (.inr h13)) i hi hg x y).1 hr⟩
    rintro⟨i,hi,hg,hr⟩;exact⟨i,hi,hg,(h.1.group (.inr (.inr h13)) i hi hg x y).2 hr⟩
   have up:∀x y,Rch (N.step n.g (N.sat a)) x y->Rch (M.step n.g (M.sat a)) (e x) (e y):=fun x y hr=>hr.map e (fun x y h=>(hst x y).1 h)
   have down:∀p q,Rch (M.step n.g (M.sat a)) p q->∀x,e x=p->∃y,e y=q/\Rch (N.step n.g (N.sat a)) x y:=by
    intro p q hr
    induction hr with
    |@one p q hp =>
     rintro x rfl;obtain⟨y,rfl⟩:=hs q;exact⟨y,rfl,.one ((hst x y).2 hp)⟩
    |@cons p q r hp _ ih =>
     rintro x rfl;obtain⟨y,rfl⟩:=hs q;obtain⟨z,hz,hr⟩:=ih y rfl;exact⟨z,hz,.cons ((hst x y).2 hp) hr⟩
   constructor
   ·intro k v hv;obtain⟨y,rfl,hy⟩:=down _ _ hv u rfl;exact(ihb y).1 (k y hy)
   intro k v hv;exact(ihb v).2 (k (e v) (up u v hv))
  rw [if_neg h13,if_neg h13]
end
structure Ci (lg:Int) (base:List (List Nd)) (S:List Nat) (agents facts:Nat) (md:Md):Prop where
 n:md.n=S.length
 rel:md.rel=(List.range agents).map fun(a:Nat)=>(List.range S.length).map fun v=>Kk S.length fun w=>Ze lg (Zg base) (a:Int) (S.getD v 0) (S.getD w 0)
 vlen:md.val.length=facts
 vlow:∀s∈md.val,s < 2^S.length
 fact:∀(i p:Nat),i < base.length->(Qi (base.getD i [])).op=3->(Qi (base.getD i [])).i=(p:Int)->∀w,w < S.length->(md.val.getD p 0).testBit w=(S.getD w 0).testBit i
section
variable {lg:Int} {l:List (List Nd)} {t0:Tr} {S:List Nat} {agents facts:Nat} {md:Md}
theorem Ci.row(h:Ci lg l S agents facts md) {a:Nat}(ha:a < agents):md.rel.getD a []=(List.range S.length).map fun v=>Kk S.length fun w=>Ze lg (Zg l) (a:Int) (S.getD v 0) (S.getD w 0):=by
 rw [h.rel,Qk,List.getElem?_map,List.getElem?_range ha];rfl
theorem Ci.bit(h:Ci lg l S agents facts md) {a:Nat}(ha:a < agents) {v w:Nat}(hv:v < S.length):((md.rel.getD a []).getD v 0).testBit w=(decide (w < S.length)&&Ze lg (Zg l) (a:Int) (S.getD v 0) (S.getD w 0)):=by
 rw [h.row ha,Qk,List.getElem?_map,List.getElem?_range hv];exact Df _ _ _
theorem Ud {S:List Nat} {v:Nat}(h:v < S.length):S.getD v 0∈S:=by
 rw [Qk,Qv h];exact List.getElem_mem _
theorem Qdm {S:List Nat} {u:Nat}(h:u∈S):∃w,w < S.length/\S.getD w 0=u:=by
 obtain⟨w,hw,e⟩:=List.getElem_of_mem h;exact⟨w,hw,by rw [Qk,Qv hw];exact e⟩
variable (hB:Rl l t0) (hlg:0<=lg/\lg<=6) (hF:Pc lg (l.map Ql) (fun t=>t∈S) (th l)) (hlt:∀u∈S,u < 2^l.length)
include hB hlg hF hlt
theorem Qck(h:Ci lg l S agents facts md)(h0:0 < S.length)(h64:S.length<=64)(ha4:agents<=4)(hf8:facts<=8):Fm md lg:=by
 have hM:=Qdi hF hlg.2;have hnn:md.n.toNat=S.length:=by rw [h.n];exact Int.toNat_natCast _
 have hrl:md.rel.length=agents:=by rw [h.rel];simp
 have hrow:∀r∈md.rel,∃a,a < agents/\r=md.rel.getD a []:=fun r hr=>by
  obtain⟨a,ha,e⟩:=List.getElem_of_mem hr;exact⟨a,by omega,by rw [Qk,Qv ha];exact e.symm⟩
 have hlen:∀a,a < agents->(md.rel.getD a []).length=S.length:=fun a ha=>by rw [h.row ha];simp
 have hbey:∀a,a < agents->Zx (md.rel.getD a []) S.length=false:=fun a ha=>by
  unfold Zx;rw [List.any_eq_false];intro s hs;rw [h.row ha]at hs;obtain⟨v,_,rfl⟩:=List.mem_map.1 hs
  simpa using Bs _ _
 refine⟨hlg,?_,fun r hr=> ?_⟩
 ·unfold Zy;rw [if_neg (by rw [h.n];omega),if_neg (by rw [hrl,h.vlen];omega),hnn];have h1:md.rel.any (fun r=> !decide ((r.length:Int)=md.n))=false:=by
   rw [List.any_eq_false];intro r hr;obtain⟨a,ha,rfl⟩:=hrow r hr;rw [hlen a ha,h.n];simp
  have h2:Zx md.val S.length=false:=by
   unfold Zx;rw [List.any_eq_false];intro s hs;have:=h.vlow s hs
   simpa using this
  have h3:md.rel.any (fun r=>Zx r S.length)=false:=by
   rw [List.any_eq_false];intro r hr;obtain⟨a,ha,rfl⟩:=hrow r hr;rw [hbey a ha];simp
  rw [h1,h2,h3];rfl
 obtain⟨a,ha,rfl⟩:=hrow r hr;have hfr:=hM (a:Int);have hbit:∀v w,v < S.length->(((md.rel.getD a []).getD v 0).testBit w=true↔w < S.length/\Sb lg (l.map Ql) (a:Int) (th l (S.getD v 0)) (th l (S.getD w 0))):=fun v w hv=>by
  rw [h.bit ha hv,Bool.and_eq_true,decide_eq_true_iff];refine and_congr_right fun hw=> ?_
  exact Ua hB (hlt _ (Ud hw))
 have hl:=hlen a ha;generalize md.rel.getD a []=r at hbit hl;intro q hq;have hq':=hq;unfold Bg at hq;have hmem:=Qks hq';unfold Ve;by_cases h1:q=1
 ·rw [if_pos h1];intro v hv hz;rw [hl]at hv;have hs:lg=1\/lg=5:=by
   subst h1
   repeat' split at hq
   all_goals(simp at hq;try omega)
  obtain⟨u,hp⟩:=hfr.ser hs ⟨S.getD v 0,Ud hv⟩;obtain⟨w,hw,e⟩:=Qdm u.2;have hp':Sb lg (l.map Ql) (a:Int) (th l (S.getD v 0)) (th l u.1):=hp;rw [<-e]at hp';have:=(hbit v w hv).2 ⟨hw,hp'⟩;rw [hz,Nat.zero_testBit]at this;cases this
 rw [if_neg h1];by_cases h2:q=2
 ·rw [if_pos h2];intro v hv;rw [hl]at hv;have hs:lg=2\/lg=4\/lg=6:=by
   subst h2
   repeat' split at hq
   all_goals(simp at hq;try omega)
  exact(hbit v v hv).2 ⟨hv,hfr.refl hs ⟨S.getD v 0,Ud hv⟩⟩
 rw [if_neg h2];by_cases h4:q=4
 ·rw [if_pos h4];have hs:3<=lg/\lg<=6:=by
   subst h4
   repeat' split at hq
   all_goals(simp at hq;try omega)
  intro w u hw hu hwu;show Yw (r.getD u 0) (r.getD w 0)=true;rw [Vg];rw [hl]at hw hu;intro v hv;obtain⟨_,p1⟩:=(hbit w u hw).1 hwu;obtain⟨hv',p2⟩:=(hbit u v hu).1 hv;exact(hbit w v hw).2 ⟨hv',hfr.trans hs ⟨S.getD w 0,Ud hw⟩ ⟨S.getD u 0,Ud hu⟩ ⟨S.getD v 0,Ud hv'⟩ p1 p2⟩
 rw [if_neg h4];have hs:lg=5\/lg=6:=by
  have:q=5:=by omega
  subst this
  repeat' split at hq
  all_goals(simp at hq;try omega)
 intro w u hw hu hwu;show Yw (r.getD w 0) (r.getD u 0)=true;rw [Vg];rw [hl]at hw hu;intro v hv;obtain⟨_,p1⟩:=(hbit w u hw).1 hwu;obtain⟨hv',p2⟩:=(hbit w v hw).1 hv;exact(hbit u v hu).2 ⟨hv',hfr.eucl hs ⟨S.getD w 0,Ud hw⟩ ⟨S.getD u 0,Ud hu⟩ ⟨S.getD v 0,Ud hv'⟩ p1 p2⟩
end
theorem Dj {B:List Tr}(hB:Cg B):∀t:Tr,cov B t->lang t->t.all (fun n=>n.op=3->Tr.leaf n∈B)
 |.leaf _,h,_=>h
 |.one n a,h,hl=>by
  have h3:n.op=3->Tr.leaf n∈B:=fun e=>by rcases hl.1 with h1|h1 <;> omega
  by_cases h9:n.op=9
  ·have hm:.one n a∈B:=by simpa [cov,h9]using h
   obtain⟨_,hc,hla,_⟩:=hB.know n a hm;exact⟨h3,Dj hB a hc hla⟩
  have hc:cov B a:=by simpa [cov,h9]using h
  exact⟨h3,Dj hB a hc hl.2⟩
 |.two n a b,h,hl=>by
  have h3:n.op=3->Tr.leaf n∈B:=fun e=>by rcases hl.1 with h1|h1 <;> omega
  by_cases h13:n.op=13
  ·have hm:.two n a b∈B:=by simpa [cov,h13]using h
   obtain⟨_,hca,hcb,hla,hlb,_⟩:=hB.com n a b hm;exact⟨h3,Dj hB a hca hla,Dj hB b hcb hlb⟩
  have hc:cov B a/\cov B b:=by simpa [cov,h13]using h
  exact⟨h3,Dj hB a hc.1 hl.2.1,Dj hB b hc.2 hl.2.2⟩
theorem Cf {P Q R:Nd->Prop}(h:∀n,P n->Q n->R n):∀t:Tr,t.all P->t.all Q->t.all R
 |.leaf n,h1,h2=>h n h1 h2
 |.one n a,h1,h2=>⟨h n h1.1 h2.1,Cf h a h1.2 h2.2⟩
 |.two n a b,h1,h2=>⟨h n h1.1 h2.1,Cf h a h1.2.1 h2.2.1,Cf h b h1.2.2 h2.2.2⟩
theorem Hl:∀t:Tr,Cn t->t.ok->t.all (fun n=>n.op=3->n=⟨3,n.i,0,0,0,0⟩)
 |.leaf _,h,_=>h
 |.one n a,h,ho=>⟨fun e=>absurd (e▸ho.1) (by decide),Hl a h ho.2.2.2⟩
 |.two n a b,h,ho=>⟨fun e=>absurd (e▸ho.1) (by decide),Hl a h.1 ho.2.2.2.1,Hl b h.2 ho.2.2.2.2⟩
section
variable {lg:Int} {f:List Nd} {S:List Nat} {agents facts:Nat} {md:Md}
theorem Qwg(h:Uo lg f)(hF:Pc lg ((Qn f).1.map Ql) (fun t=>t∈S) (th (Qn f).1))(hlt:∀u∈S,u < 2^(Qn f).1.length)
 (hm:Ci lg (Qn f).1 S agents facts md)(hA:Ym (Jn (Qg f))=agents)(hFa:Ym (Je (Qg f))=facts)(w:Fin md.n.toNat):
 (Kd md).sat (Ql f) w↔(Xo f).getD (S.getD w.1 0) false=true:=by
 have hnn:md.n.toNat=S.length:=by rw [hm.n];exact Int.toNat_natCast _
 have hrl:md.rel.length=agents:=by rw [hm.rel];simp
 have hwl:∀v:Fin md.n.toNat,v.1 < S.length:=fun v=>by have:=v.2;omega
 have hin:=Qds h.ck;rw [hA,hFa]at hin;have hexp:(Vq (Ql f)).all (InB agents facts):=Wm _ hin;have hcf:=Dj h.b.closed _ h.b.cov h.x.xp.lang;have hff:=Hl _ h.x.xp.fact h.x.xp.1.1
 let M:=Dd lg ((Qn f).1.map Ql) (fun t=>t∈S) (th (Qn f).1)
 let e:(Kd md).W->M.W:=fun v=>⟨S.getD v.1 0,Ud (hwl v)⟩
 have hsur:∀v:M.W,∃u,e u=v:=fun v=>by
  obtain⟨w,hw,e1⟩:=Qdm v.2;exact⟨⟨w,by omega⟩,Subtype.ext e1⟩
 have hR:∀i:Int,0<=i/\i < agents->∀u v,(Kd md).R i u v↔M.R i (e u) (e v):=fun i hi u v=>by
  have hi2:0<=i/\i < md.rel.length:=by omega
  show(if 0<=i/\i < md.rel.length then Pe (md.rel.getD i.toNat []) md.n.toNat u v else u=v)↔Sb lg ((Qn f).1.map Ql) i (th (Qn f).1 (S.getD u.1 0)) (th (Qn f).1 (S.getD v.1 0));rw [if_pos hi2];unfold Pe;rw [hm.bit (by omega) (hwl u),decide_eq_true (hwl v),Bool.true_and,show((i.toNat:Nat):Int)=i by omega];exact Ua h.b (hlt _ (Ud (hwl v)))
 have hV:∀n:Nd,n.op=3->Tr.leaf n∈(Qn f).1.map Ql->n=⟨3,n.i,0,0,0,0⟩->0<=n.i->∀u,(Kd md).V n.i u↔M.V n.i (e u):=fun n h3 hn hne h0 u=>by
  obtain⟨i,hg,hi,hth⟩:=Fj h.b hn;show(md.val.getD n.i.toNat 0).testBit u.1=true↔th (Qn f).1 (S.getD u.1 0) (.leaf ⟨3,n.i,0,0,0,0⟩)=true;rw [<-hne,hth];have hcan:(Qn f).1.getD i []= [n]:=by
   rw [Qk,hg];rfl
  have:=hm.fact i n.i.toNat hi (by rw [hcan];exact h3) (by rw [hcan,show((n.i.toNat:Nat):Int)=n.i by omega];rfl) u.1 (hwl u);rw [this]
 have hiso:(Vq (Ql f)).all (Qor (M:=M) e):=by
  refine Cf (P:=InB agents facts) (Q:=fun n=>(n.op=3->Tr.leaf n∈(Qn f).1.map Ql)/\(n.op=3->n=⟨3,n.i,0,0,0,0⟩)) (fun n h1 h2=>⟨fun ho=>hR n.i (h1.agent ho),fun _ i _ hg=>hR i ⟨by omega,by have:=h1.group i hg;omega⟩,fun h3=>hV n h3 (h2.1 h3) (h2.2 h3) (h1.fact h3).1⟩) _ hexp (Cf (fun _ h1 h2=>⟨h1,h2⟩) _ hcf hff)
 refine(My (M:=Kd md) (Ql f) w).symm.trans ((Qqg e hsur _ hiso w).trans ((La h.b.closed hF _ h.b.cov h.x.xp.lang h.x.xp.fact (e w)).symm.trans ?_));rw [Qjn h (hlt _ (Ud (hwl w)))]
end
theorem Qy1 {n:Nd}(h:Nz n.op) {i:Nat}(hi:(Yd n.op).toNat.testBit i=true):(15:Nat).testBit i=true:=by
 have hc:n.op=1\/n.op=2\/n.op=3\/n.op=4\/n.op=5\/n.op=6\/n.op=7\/n.op=8\/n.op=9\/n.op=10\/n.op=11\/n.op=13:=by unfold Nz at h;omega
 have hlt:(Yd n.op).toNat < 2^4/\Yw (Yd n.op).toNat 15=true:=by
  rcases hc with e|e|e|e|e|e|e|e|e|e|e|e <;>(rw [e];exact⟨by decide,by decide⟩)
 exact Vg.1 hlt.2 i hi
theorem Qej {f:List Nd} {md:Md}(hc:check f=0)(hl:Kl f=false)(hck:Zy md=0)(hA:Ym (Jn (Qg f))=md.rel.length)(hF:Ym (Je (Qg f))=md.val.length):Jr md (Qg f)=0:=by
 have hcc:check (Qg f)=0:=(Ky hc);have h2:=Gd hc;have hs:Yw (Jh (Qg f)) 15=true:=by
  rw [Vg];intro i hi;unfold Jh Kq at hi;rw [h2]at hi;rcases He _ _ _ hi with h|⟨n,hn,h⟩
  ·rw [Nat.zero_testBit]at h;cases h
  exact Qy1 (Nc hc hl n hn) h
 have hf:Yg (Qg f) md.rel.length md.val.length=true:=by
  unfold Yg;rw [Bool.and_eq_true,Bool.and_eq_true,List.all_eq_true,List.all_eq_true,h2];refine⟨by rw [hcc];rfl,fun i _=> ?_,fun i _=> ?_⟩
  ·unfold Kb;rw [Bool.or_eq_true,decide_eq_true_iff];cases hb:(Jn (Qg f)).testBit i
   ·exact Or.inl rfl
   exact Or.inr (by rw [<-hA];exact Vm (Li _) hb)
  unfold Kb;rw [Bool.or_eq_true,decide_eq_true_iff];cases hb:(Je (Qg f)).testBit i
  ·exact Or.inl rfl
  exact Or.inr (by rw [<-hF];exact Vm (Li _) hb)
 unfold Jr;rw [if_neg (by rw [hck];simp),if_neg (by rw [hcc];simp),if_neg (by rw [hs];simp),if_neg (by rw [hf];simp)]
end Go.Proofs.YtkmclcmnoicagaaGreatDoor
