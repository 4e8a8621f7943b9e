/- The base of an expansion, by trees: it is closed. -/
import Derived.Test.YtkmclcmnoicagaaGreatDoorT22
namespace Go.Proofs.YtkmclcmnoicagaaGreatDoor
set_option maxRecDepth 100000
set_option maxHeartbeats 128000000
def Sr(n:Nd):Prop:=(1<=n.op/\n.op<=9)\/n.op=13
def Xp(t:Tr):Prop:=Hd t/\t.all Sr
theorem Qd3 {op:Int}(h1:Qh op=true)(h2:Qc op=false)(h:(1<=op/\op<=9)\/op=13):op=4\/op=9:=by
 have:op=1\/op=2\/op=3\/op=4\/op=5\/op=6\/op=7\/op=8\/op=9\/op=13:=by omega
 rcases this with rfl|rfl|rfl|rfl|rfl|rfl|rfl|rfl|rfl|rfl <;> first|(cases h1;done)|(cases h2;done)|omega
theorem Qd4 {op:Int}(h2:Qc op=true)(h:(1<=op/\op<=9)\/op=13):(5<=op/\op<=8)\/op=13:=by
 have:op=1\/op=2\/op=3\/op=4\/op=5\/op=6\/op=7\/op=8\/op=9\/op=13:=by omega
 rcases this with rfl|rfl|rfl|rfl|rfl|rfl|rfl|rfl|rfl|rfl <;> first|(cases h2;done)|omega
theorem Xp.lang:∀{t:Tr},Xp t->lang t
 |.leaf _,_=>trivial
 |.one _n a,h=>⟨Qd3 h.1.1.1 h.1.1.2.1 h.2.1,Xp.lang (t:=a) ⟨⟨h.1.1.2.2.2,h.1.2.2⟩,h.2.2⟩⟩
 |.two _n a b,h=>⟨Qd4 h.1.1.2.1 h.2.1,Xp.lang (t:=a) ⟨⟨h.1.1.2.2.2.1,h.1.2.2.1⟩,h.2.2.1⟩,Xp.lang (t:=b) ⟨⟨h.1.1.2.2.2.2,h.1.2.2.2⟩,h.2.2.2⟩⟩
theorem Xp.fact:∀{t:Tr},Xp t->Cn t
 |.leaf n,h=>fun ho=>by
  have e:=Qnm h.1.2 (.inl ho);rw [Px h.1.1.1 h.1.1.2,ho]at e;exact e
 |.one n a,h=>Xp.fact (t:=a) ⟨⟨h.1.1.2.2.2,h.1.2.2⟩,h.2.2⟩
 |.two n a b,h=>⟨Xp.fact (t:=a) ⟨⟨h.1.1.2.2.2.1,h.1.2.2.1⟩,h.2.2.1⟩,Xp.fact (t:=b) ⟨⟨h.1.1.2.2.2.2,h.1.2.2.2⟩,h.2.2.2⟩⟩
theorem Xp.of_one {n:Nd} {a:Tr}(h:Xp (.one n a)):Xp a:=⟨⟨h.1.1.2.2.2,h.1.2.2⟩,h.2.2⟩
theorem Xp.of_two {n:Nd} {a b:Tr}(h:Xp (.two n a b)):Xp a/\Xp b:=⟨⟨⟨h.1.1.2.2.2.1,h.1.2.2.1⟩,h.2.2.1⟩,⟨h.1.1.2.2.2.2,h.1.2.2.2⟩,h.2.2.2⟩
theorem Xp.know {i:Int}(h0:0<=i)(h1:i < 4) {s:Tr}(hs:Xp s):Xp (.one ⟨9,i,0,0,0,0⟩ s):=⟨Qqq h0 h1 hs.1,.inl ⟨show(1:Int)<=9 by decide,show(9:Int)<=9 by decide⟩,hs.2⟩
theorem Xp.and {s t:Tr}(hs:Xp s)(ht:Xp t):Xp (.two ⟨5,0,0,0,0,0⟩ s t):=⟨Qlg hs.1 ht.1,.inl ⟨by decide,by decide⟩,hs.2,ht.2⟩
theorem Xp.imp {s t:Tr}(hs:Xp s)(ht:Xp t):Xp (.two ⟨7,0,0,0,0,0⟩ s t):=⟨Qo7 hs.1 ht.1,.inl ⟨by decide,by decide⟩,hs.2,ht.2⟩
theorem Xp.unf {i:Nat}(hi:i < 4) {n:Nd} {a b:Tr}(h:Xp (.two n a b)):Xp (Xt i n a b):=
 Xp.know (by omega) (by omega) (Xp.imp h.of_two.1 (Xp.and h.of_two.2 h))
theorem Xp.at {t:Tr}(h:Xp t) {i:Nat}(hi:i < (Qf t).length):Xp (tr (Qf t) i):=
 ⟨⟨Qxp h.1.wf _ hi,To (fun _ k1 k2 h=>h.with_ k1 k2) h.1.wf (Di (fun _ k1 k2 h=>h.with_ k1 k2) t [] h.1.2 (fun n hn=>by cases hn)) _ hi⟩,
   To (P:=Sr) (fun _ _ _ k=>k) h.1.wf (Di (P:=Sr) (fun _ _ _ k=>k) t [] h.2 (fun n hn=>by cases hn)) _ hi⟩
structure Xf (t:Tr):Prop where
 xp:Xp t
 len:(Qf t).length<=200
section
variable {t:Tr}
theorem Xf.check(h:Xf t):check (Qf t)=0:=h.xp.1.check h.len
theorem Xf.tree(h:Xf t):Ql (Qf t)=t:=Vf h.xp.1.1
theorem Xf.at(h:Xf t) {i:Nat}(hi:i < (Qf t).length):Xf (tr (Qf t) i):=⟨h.xp.at hi,Qx (Ev h.xp.1.1 hi) h.len⟩
theorem Xf.of_one {n:Nd} {a:Tr}(h:Xf (.one n a)):Xf a:=⟨h.xp.of_one,Qx (Qd0 h.xp.1.1) h.len⟩
theorem Xf.of_two {n:Nd} {a b:Tr}(h:Xf (.two n a b)):Xf a/\Xf b:=⟨⟨h.xp.of_two.1,Qx (Qvc h.xp.1.1).1 h.len⟩,⟨h.xp.of_two.2,Qx (Qvc h.xp.1.1).2 h.len⟩⟩
theorem Xf.short(h:Xf t):Zp t=Qf t:=Xx h.len
theorem Xf.inj {s:Tr}(hs:Xf s)(h:Xf t)(e:Qf s=Qf t):s=t:=Qtf hs.xp.1.1 h.xp.1.1 e
theorem Xf.last(h:Xf t):(Qi (Qf t)).op=t.top.op:=by rw [Qer h.check,h.tree]
theorem Xf.base(h:Xf t):Jm (Qi (Qf t))=Jm t.top:=by unfold Jm;rw [h.last]
theorem Xf.unf {n:Nd} {a b:Tr}(h:Xf (.two n a b)) {i:Nat}(hi:i < 4):Gl i (Qf (.two n a b))=Zp (Xt i n a b):=by
 obtain⟨_,_,e1,e2⟩:=Nh h.check h.tree;have hb:=h.of_two.2;have ha:=h.of_two.1;unfold Gl Xt;rw [e1,e2,<-ha.short,<-hb.short,<-h.short];have h1:Xi (Zp b) (Zp (.two n a b))=Zp (.two ⟨5,0,0,0,0,0⟩ b (.two n a b)):=Qrt hb.xp.1 h.xp.1 rfl rfl (Wh 5 (by omega)) rfl;have h2:Cj (Zp a) (Zp (.two ⟨5,0,0,0,0,0⟩ b (.two n a b)))=Zp (.two ⟨7,0,0,0,0,0⟩ a (.two ⟨5,0,0,0,0,0⟩ b (.two n a b))):=Qrt ha.xp.1 (hb.xp.and h.xp).1 rfl rfl (Wh 7 (by omega)) rfl;have h3:Ki (i:Int) (Zp (.two ⟨7,0,0,0,0,0⟩ a (.two ⟨5,0,0,0,0,0⟩ b (.two n a b))))=Zp (.one ⟨9,(i:Int),0,0,0,0⟩ (.two ⟨7,0,0,0,0,0⟩ a (.two ⟨5,0,0,0,0,0⟩ b (.two n a b)))):=Qvd (ha.xp.imp (hb.xp.and h.xp)).1 rfl rfl (Qyd (by omega) (by omega)) rfl
 rw [h1,h2,h3]
theorem Xf.subs(h:Xf t):Qqb (Qf t)=(List.range (Qf t).length).map fun i=>Qf (tr (Qf t) i):=by
 unfold Qqb Dv;rw [Qn5 h.xp.1 h.len];exact List.map_congr_left fun i hi=>Fs h.check (List.mem_range.1 hi)
theorem Xf.mem_base0(h:Xf t) {c:List Nd} :c∈Yz (Qf t)↔∃i,i < (Qf t).length/\c=Qf (tr (Qf t) i)/\Jm (tr (Qf t) i).top=true:=by
 unfold Yz;rw [h.subs,List.mem_filter,List.mem_map];constructor
 ·rintro⟨⟨i,hi,rfl⟩,hb⟩;have hi:=List.mem_range.1 hi;exact⟨i,hi,rfl,by rw [<-(h.at hi).base];exact hb⟩
 rintro⟨i,hi,rfl,hb⟩;exact⟨⟨i,List.mem_range.2 hi,rfl⟩,by rw [(h.at hi).base];exact hb⟩
theorem Xf.base0_nodup(h:Xf t):(Yz (Qf t)).Nodup:=by
 unfold Yz;rw [h.subs];refine List.Pairwise.filter _ ?_;rw [List.pairwise_map];refine List.Pairwise.imp_of_mem ?_ (List.nodup_iff_pairwise_ne.1 List.nodup_range);intro i j hi hj hne e;have hi:=List.mem_range.1 hi;have hj:=List.mem_range.1 hj;exact hne (Qtg h.xp.1.1 i j hi hj ((h.at hi).inj (h.at hj) e))
end
theorem Qkn {l:List (List Nd)} {g:List Nd} :Yq l g < 0↔g∉l:=by
 unfold Yq;cases h:l.findIdx? fun f=>decide (f=g)with
 |none =>
  rw [List.findIdx?_eq_none_iff]at h;refine⟨fun _ hm=> ?_,fun _=>by decide⟩;have:=h g hm;simp at this
 |some j =>
  obtain⟨hj,he,_⟩:=List.findIdx?_eq_some_iff_getElem.1 h;refine⟨fun hn=> ?_,fun hn=> ?_⟩
  ·simp only at hn;omega
  have e:l[j]=g:=by simpa using he
  exact absurd (e▸List.getElem_mem hj) hn
theorem Xv {l:List (List Nd)}(hl:l.Nodup) {i:Nat} {g:List Nd}(hi:l[i]?=some g):Yq l g=i:=by
 obtain⟨hil,he⟩:=List.getElem?_eq_some_iff.1 hi;unfold Yq;have:l.findIdx? (fun f=>decide (f=g))=some i:=by
  rw [List.findIdx?_eq_some_iff_getElem];refine⟨hil,by simpa using he,fun j hj=> ?_⟩;have hne:l[j]≠l[i]:=fun e=>by
   have:=(List.nodup_iff_pairwise_ne.1 hl);rw [List.pairwise_iff_getElem]at this;exact this j i (by omega) hil hj e
  rw [he]at hne
  simpa using hne
 rw [this]
theorem Qpk {l:List (List Nd)} {g c:List Nd} :c∈Xd l g↔c∈l\/c=g:=by
 unfold Xd;cases h:decide (Yq l g < 0)
 ·rw [decide_eq_false_iff_not,Qkn,Classical.not_not]at h;exact⟨.inl,fun k=>k.elim id fun e=>e▸h⟩
 simp
theorem Qns {l:List (List Nd)} {g:List Nd}(h:l.Nodup):(Xd l g).Nodup:=by
 unfold Xd;cases k:decide (Yq l g < 0)
 ·exact h
 rw [decide_eq_true_iff,Qkn]at k;rw [cond_true,List.nodup_append];exact⟨h,by simp,fun a ha b hb e=>k (by rw [List.mem_singleton.1 hb]at e;exact e▸ha)⟩
theorem Hc:∀(us:List (List Nd)) (l:List (List Nd)) (c:List Nd),c∈us.foldl Xd l↔c∈l\/c∈us
 |[],l,c=>by simp
 |u :: r,l,c=>by
  rw [List.foldl_cons,Hc r,Qpk,List.mem_cons];exact or_assoc
theorem Hh:∀(us:List (List Nd)) (l:List (List Nd)),l.Nodup->(us.foldl Xd l).Nodup
 |[],_,h=>h
 |_ :: r,_,h=>Hh r _ (Qns h)
structure Rl (l:List (List Nd)) (t:Tr):Prop where
 can:∀c∈l,∃s,Xf s/\c=Qf s/\Jm s.top=true
 nodup:l.Nodup
 closed:Cg (l.map Ql)
 cov:cov (l.map Ql) t
 len:l.length<=12
theorem Yt {l:List (List Nd)}(hl:∀c∈l,∃s,Xf s/\c=Qf s/\Jm s.top=true) {s:Tr} :s∈l.map Ql↔Xf s/\Qf s∈l:=by
 rw [List.mem_map];constructor
 ·rintro⟨c,hc,rfl⟩;obtain⟨u,hu,rfl,_⟩:=hl c hc;rw [hu.tree];exact⟨hu,hc⟩
 rintro⟨h1,h2⟩;exact⟨_,h2,h1.tree⟩
theorem Em {n:Nd} {a b:Tr}(h:Xf (.two n a b))(ho:n.op=13) {c:List Nd} :c∈Ye (Qf (.two n a b))↔∃i,i < 4/\Yl n.g i=true/\c=Zp (Xt i n a b):=by
 obtain⟨e1,e2,_,_⟩:=Nh h.check h.tree;unfold Ye;rw [e1,ho,e2];simp only [beq_self_eq_true,cond_true,List.mem_map,List.mem_filter,List.mem_range];constructor
 ·rintro⟨i,⟨h1,h2⟩,rfl⟩;exact⟨i,h1,h2,h.unf h1⟩
 rintro⟨i,h1,h2,rfl⟩;exact⟨i,⟨h1,h2⟩,h.unf h1⟩
theorem Le {s:Tr}(h:Xf s)(ho:s.top.op≠13):Ye (Qf s)= []:=by
 unfold Ye;rw [h.last];have:(s.top.op==13)=false:=by simpa using ho
 rw [this];rfl
theorem Ce {s:Tr}(h:Xf s)(ho:s.top.op=13):∃n a b,s=.two n a b/\n.op=13:=by
 cases s with
 |leaf n=>have:=h.xp.1.1.2;rw [show n.op=13 from ho]at this;cases this
 |one n a=>have:=h.xp.1.1.2.1;rw [show n.op=13 from ho]at this;cases this
 |two n a b=>exact⟨n,a,b,rfl,ho⟩
theorem Qdz {t:Tr}(h:Xf t)(he:(Vx (Qf t)).2=0):Rl (Vx (Qf t)).1 t:=by
 unfold Vx at he⊢;cases hc:((Yz (Qf t)).flatMap Ye).any (fun u=>decide (u.length=0))||decide (12 < (((Yz (Qf t)).flatMap Ye).foldl Xd (Yz (Qf t))).length)
 case true=>rw [hc]at he;cases he
 rw [cond_false];rw [Bool.or_eq_false_iff]at hc;obtain⟨hc1,hc2⟩:=hc;generalize hl:((Yz (Qf t)).flatMap Ye).foldl Xd (Yz (Qf t))=l at hc2;have hmem:∀c,c∈l↔c∈Yz (Qf t)\/c∈(Yz (Qf t)).flatMap Ye:=fun c=>by rw [<-hl];exact Hc _ _ _
 have hne:∀u∈(Yz (Qf t)).flatMap Ye,u.length≠0:=fun u hu=>by
  have:=List.any_eq_false.1 hc1 u hu
  simpa using this
 have hun:∀u∈(Yz (Qf t)).flatMap Ye,∃i n a b k,k < (Qf t).length/\tr (Qf t) k=.two n a b/\Xf (.two n a b)/\n.op=13/\i < 4/\Yl n.g i=true/\Xf (Xt i n a b)/\u=Qf (Xt i n a b):=fun u hu=>by
  obtain⟨c,hcb,huc⟩:=List.mem_flatMap.1 hu;obtain⟨k,hk,rfl,_⟩:=h.mem_base0.1 hcb;have hx:=h.at hk;by_cases ho:(tr (Qf t) k).top.op=13
  ·obtain⟨n,a,b,e,ho'⟩:=Ce hx ho;rw [e]at hx huc;obtain⟨i,hi,hg,rfl⟩:=(Em hx ho').1 huc;have hl0:=hne _ hu;have hlen:(Qf (Xt i n a b)).length<=200:=by
    by_cases e2:(Qf (Xt i n a b)).length<=200
    ·exact e2
    rw [Kf (by omega)]at hl0;simp at hl0
   exact⟨i,n,a,b,k,hk,e,hx,ho',hi,hg,⟨hx.xp.unf hi,hlen⟩,Xx hlen⟩
  rw [Le hx ho]at huc;cases huc
 have hcan:∀c∈l,∃s,Xf s/\c=Qf s/\Jm s.top=true:=fun c hc=>by
  rcases(hmem c).1 hc with h1|h1
  ·obtain⟨k,hk,rfl,hb⟩:=h.mem_base0.1 h1;exact⟨_,h.at hk,rfl,hb⟩
  obtain⟨i,n,a,b,_,_,_,_,_,_,_,hX,rfl⟩:=hun c h1;exact⟨_,hX,rfl,rfl⟩
 have hsub:∀k,k < (Qf t).length->Jm (tr (Qf t) k).top=true->tr (Qf t) k∈l.map Ql:=fun k hk hb =>
  (Yt hcan).2 ⟨h.at hk,(hmem _).2 (.inl (h.mem_base0.2 ⟨k,hk,rfl,hb⟩))⟩
 have hcov:∀k,k < (Qf t).length->cov (l.map Ql) (tr (Qf t) k):=by
  intro k
  induction k using Nat.strongRecOn with
  |_ k ih =>
   intro hk;obtain⟨n,hn⟩:∃n,(Qf t)[k]?=some n:=⟨_,Qv hk⟩;obtain⟨hx,hy⟩:=h.xp.1.wf k n hn;have hs:=hsub k hk;rw [Vo h.xp.1.wf hn]at hs⊢;unfold Yv at hs⊢;cases h2:Qc n.op
   ·cases h1:Qh n.op
    ·rw [h1,h2]at hs;exact fun h3=>hs (by simp [Jm,Tr.top,h3])
    rw [h1,h2]at hs;have:=hx h1;simp only [cond_false,cond_true,_root_.Go.Proofs.YtkmclcmnoicagaaGreatDoor.cov]at hs⊢;by_cases h9:n.head.op=9
    ·rw [if_pos h9];exact hs (by simp [Jm,Tr.top,h9])
    rw [if_neg h9];exact ih _ (by omega) (by omega)
   rw [h2]at hs;have:=hx (Vz h2);have:=hy h2;simp only [cond_true,_root_.Go.Proofs.YtkmclcmnoicagaaGreatDoor.cov]at hs⊢;by_cases h13:n.head.op=13
   ·rw [if_pos h13];exact hs (by simp [Jm,Tr.top,h13])
   rw [if_neg h13];exact⟨ih _ (by omega) (by omega),ih _ (by omega) (by omega)⟩
 have hpart:∀k,k < (Qf t).length->∀n a b,tr (Qf t) k=.two n a b->cov (l.map Ql) a/\cov (l.map Ql) b:=fun k hk n a b e=>by
  obtain⟨m,hm⟩:∃m,(Qf t)[k]?=some m:=⟨_,Qv hk⟩;obtain⟨hx,hy⟩:=h.xp.1.wf k m hm;rw [Vo h.xp.1.wf hm]at e;obtain⟨h2,_,rfl,rfl⟩:=Ql1 e;have:=hx (Vz h2);have:=hy h2;exact⟨hcov _ (by omega),hcov _ (by omega)⟩
 have hpart1:∀k,k < (Qf t).length->∀n a,tr (Qf t) k=.one n a->cov (l.map Ql) a:=fun k hk n a e=>by
  obtain⟨m,hm⟩:∃m,(Qf t)[k]?=some m:=⟨_,Qv hk⟩;obtain⟨hx,hy⟩:=h.xp.1.wf k m hm;rw [Vo h.xp.1.wf hm]at e;obtain⟨h1,_,_,rfl⟩:=Ql0 e;have:=hx h1;exact hcov _ (by omega)
 refine⟨hcan,by rw [<-hl];exact Hh _ _ h.base0_nodup,⟨fun n a hm=> ?_,fun n a b hm=> ?_⟩,?_,by have:=of_decide_eq_false hc2;show l.length<=12;omega⟩
 ·obtain⟨hX,hm'⟩:=(Yt hcan).1 hm;have hop:n.op=9:=by
   obtain⟨s,hs,e,hb⟩:=hcan _ hm';have h4:=Qd3 hX.xp.1.1.1 hX.xp.1.1.2.1 hX.xp.2.1;rw [<-hX.inj hs e]at hb;simp only [Jm,Tr.top,Bool.or_eq_true,beq_iff_eq]at hb;omega
  refine⟨hop,?_,hX.of_one.xp.lang,Qx5 hX.xp.1.2.1 (.inl hop)⟩;rcases(hmem _).1 hm' with h1|h1
  ·obtain⟨k,hk,e,_⟩:=h.mem_base0.1 h1;exact hpart1 k hk n a ((hX.inj (h.at hk) e).symm)
  obtain⟨i,n',a',b',k,hk,e,hX',ho,hi,hg,hU,eu⟩:=hun _ h1;have:=hX.inj hU eu;unfold Xt at this;injection this with _ e2;subst e2;obtain⟨c1,c2⟩:=hpart k hk _ _ _ e;have hm2:=hsub k hk (by rw [e];simp [Jm,Tr.top,ho]);rw [e]at hm2;simp only [_root_.Go.Proofs.YtkmclcmnoicagaaGreatDoor.cov,show ¬(7:Int)=13 by decide,show ¬(5:Int)=13 by decide,if_false,ho,if_true];exact⟨c1,c2,hm2⟩
 ·obtain⟨hX,hm'⟩:=(Yt hcan).1 hm;rcases(hmem _).1 hm' with h1|h1
  ·obtain⟨k,hk,e,hb⟩:=h.mem_base0.1 h1;have et:=hX.inj (h.at hk) e;have hop:n.op=13:=by
    have h5:=Qd4 hX.xp.1.1.2.1 hX.xp.2.1;rw [<-et]at hb;simp only [Jm,Tr.top,Bool.or_eq_true,beq_iff_eq]at hb;omega
   obtain⟨c1,c2⟩:=hpart k hk n a b et.symm;refine⟨hop,c1,c2,hX.of_two.1.xp.lang,hX.of_two.2.xp.lang,fun i hi hg=> ?_⟩;have hu:Zp (Xt i n a b)∈(Yz (Qf t)).flatMap Ye:=List.mem_flatMap.2 ⟨_,h1,(Em hX hop).2 ⟨i,hi,hg,rfl⟩⟩;have hl0:=hne _ hu;have hlen:(Qf (Xt i n a b)).length<=200:=by
    by_cases e2:(Qf (Xt i n a b)).length<=200
    ·exact e2
    rw [Kf (by omega)]at hl0;simp at hl0
   refine(Yt hcan).2 ⟨⟨hX.xp.unf hi,hlen⟩,(hmem _).2 (.inr ?_)⟩;rw [<-Xx hlen];exact hu
  obtain⟨i,n',a',b',k,hk,e,hX',ho,hi,hg,hU,eu⟩:=hun _ h1;have:=hX.inj hU eu;unfold Xt at this;cases this
 have hp:=Gv h.xp.1.1;have:=hcov ((Qf t).length - 1) (by omega);rw [show tr (Qf t) ((Qf t).length - 1)=t from h.tree]at this;exact this
section
variable {t:Tr}
theorem Qhw(h:Xf t) {u:List Nd}(hu:u∈(Yz (Qf t)).flatMap Ye)(hl0:u.length≠0):
 ∃i n a b,Xf (.two n a b)/\n.op=13/\i < 4/\Xf (Xt i n a b)/\u=Qf (Xt i n a b):=by
 obtain⟨c,hcb,huc⟩:=List.mem_flatMap.1 hu;obtain⟨k,hk,rfl,_⟩:=h.mem_base0.1 hcb;have hx:=h.at hk;by_cases ho:(tr (Qf t) k).top.op=13
 ·obtain⟨n,a,b,e,ho'⟩:=Ce hx ho;rw [e]at hx huc;obtain⟨i,hi,hg,rfl⟩:=(Em hx ho').1 huc;have hlen:(Qf (Xt i n a b)).length<=200:=by
   by_cases e2:(Qf (Xt i n a b)).length<=200
   ·exact e2
   rw [Kf (by omega)]at hl0;simp at hl0
  exact⟨i,n,a,b,hx,ho',hi,⟨hx.xp.unf hi,hlen⟩,Xx hlen⟩
 rw [Le hx ho]at huc;cases huc
def usK(l0:List (List Nd))(k:Nat):List (List Nd):=(l0.take k).flatMap Ye
theorem Qng {l0:List (List Nd)} {k:Nat} {u:List Nd}(h:u∈usK l0 k):u∈l0.flatMap Ye:=by
 obtain⟨c,hc,hu⟩:=List.mem_flatMap.1 h;exact List.mem_flatMap.2 ⟨c,List.mem_of_mem_take hc,hu⟩
theorem Ny:∀(us l:List (List Nd)),l <+: us.foldl Xd l
 |[],l=>List.prefix_refl _
 |u :: r,l=>by
  rw [List.foldl_cons];refine List.IsPrefix.trans ?_ (Ny r _);unfold Xd;cases decide (Yq l u < 0)
  ·exact List.prefix_refl _
  exact List.prefix_append _ _
theorem Qgh(us l:List (List Nd)):l.length<=(us.foldl Xd l).length:=(Ny us l).length_le
theorem Qtz(h:Xf t) {k:Nat} {ol:List (List Nd)} {c:List Nd}(hol:ol=(usK (Yz (Qf t)) k).foldl Xd (Yz (Qf t)))(hne:∀u∈usK (Yz (Qf t)) k,u.length≠0)(hc:ol[k]?=some c):
 usK (Yz (Qf t)) (k+1)=usK (Yz (Qf t)) k++Ye c/\∃s,Xf s/\c=Qf s:=by
 generalize hl0:Yz (Qf t)=l0 at hol hne⊢;by_cases hk:k < l0.length
 ·have hp:l0 <+: ol:=hol▸Ny _ _;have hc0:l0[k]?=some c:=by
   obtain⟨r,rfl⟩:=hp;rw [List.getElem?_append_left hk]at hc;exact hc
  refine⟨?_,?_⟩
  ·unfold usK;obtain⟨hk',e⟩:=List.getElem?_eq_some_iff.1 hc0;rw [List.take_succ_eq_append_getElem hk',e,List.flatMap_append];simp
  have hm:c∈Yz (Qf t):=hl0▸List.mem_of_getElem? hc0;obtain⟨i,hi,rfl,_⟩:=h.mem_base0.1 hm;exact⟨_,h.at hi,rfl⟩
 have e:usK l0 (k+1)=usK l0 k:=by
  unfold usK;rw [List.take_of_length_le (by omega),List.take_of_length_le (by omega)]
 have hm:c∈ol:=List.mem_of_getElem? hc;rw [hol,Hc]at hm;rcases hm with hm|hm
 ·have hm':c∈Yz (Qf t):=hl0▸hm;obtain⟨i,hi,rfl,hb⟩:=h.mem_base0.1 hm';have hgt:(ol.drop l0.length)[k - l0.length]?=some (Qf (tr (Qf t) i)):=by rw [List.getElem?_drop];rw [<-hc];congr 1;omega
  have hnd:ol.Nodup:=by rw [hol,<-hl0];exact Hh _ _ h.base0_nodup
  have hp:l0 <+: ol:=hol▸Ny _ _;obtain⟨r,hr⟩:=hp;rw [<-hr]at hgt hnd;rw [List.drop_left]at hgt;have:=(List.nodup_append.1 hnd).2.2 _ hm _ (List.mem_of_getElem? hgt);exact absurd rfl this
 have hu:=hne c hm;obtain⟨i,n,a,b,_,_,_,hX,rfl⟩:=Qhw h (hl0▸Qng hm) hu;exact⟨by rw [e,Le hX (by show(9:Int)≠13;decide),List.append_nil],_,hX,rfl⟩
theorem Qw2 {l0:List (List Nd)} {k:Nat}(h:l0.length<=k):usK l0 k=l0.flatMap Ye:=by
 unfold usK;rw [List.take_of_length_le h]
theorem Qpn {l0:List (List Nd)} {k:Nat} {u:List Nd}(h:u∈usK l0 k)(hl:u.length=0):(l0.flatMap Ye).any (fun u=>decide (u.length=0))=true:=by
 rw [List.any_eq_true];exact⟨u,Qng h,by simp [hl]⟩
theorem Qs0(l0:List (List Nd))(k:Nat):∃r,l0.flatMap Ye=usK l0 k++r:=by
 refine⟨(l0.drop k).flatMap Ye,?_⟩;unfold usK;rw [<-List.flatMap_append,List.take_append_drop]
theorem Qtq {l0:List (List Nd)} {k:Nat}(h:12 < ((usK l0 k).foldl Xd l0).length):12 < ((l0.flatMap Ye).foldl Xd l0).length:=by
 obtain⟨r,e⟩:=Qs0 l0 k;rw [e,List.foldl_append];exact Qy h (Qgh r _)
theorem Qj2 {g:List Nd}(h:((Yz g).flatMap Ye).any (fun u=>decide (u.length=0))=true\/12 < (((Yz g).flatMap Ye).foldl Xd (Yz g)).length):Vx g=([],8):=by
 unfold Vx;rcases h with h|h
 ·rw [h];rfl
 rw [decide_eq_true h,Bool.or_true];rfl
theorem Qbz {g:List Nd}(h:∀u∈(Yz g).flatMap Ye,u.length≠0)(hl:(((Yz g).flatMap Ye).foldl Xd (Yz g)).length<=12):Vx g=(((Yz g).flatMap Ye).foldl Xd (Yz g),0):=by
 unfold Vx;have e:((Yz g).flatMap Ye).any (fun u=>decide (u.length=0))=false:=by
  rw [List.any_eq_false];intro u hu;simp [h u hu]
 rw [e,decide_eq_false (by omega)];rfl
end
def Na(c:List Nd)(q:Nat):List (List Nd):=bif (Qi c).op==13 then((List.range q).filter fun i=>Yl (Qi c).g i).map fun i=>Gl i c else []
theorem Qki(c:List Nd):Na c 0= []:=by
 unfold Na;cases(Qi c).op==13 <;> rfl
theorem Iv(c:List Nd):Na c 4=Ye c:=rfl
theorem Qww {c:List Nd} {q:Nat}(h:((Qi c).op==13&&Yl (Qi c).g q)=false):Na c (q+1)=Na c q:=by
 unfold Na;cases h1:(Qi c).op==13
 ·rfl
 rw [h1]at h;have h2:Yl (Qi c).g q=false:=h;simp only [cond_true];rw [List.range_succ,List.filter_append,List.map_append,List.filter_cons,h2];simp
theorem Qhe {c:List Nd} {q:Nat}(h1:((Qi c).op==13)=true)(h2:Yl (Qi c).g q=true):Na c (q+1)=Na c q++ [Gl q c]:=by
 unfold Na;rw [h1];simp only [cond_true];rw [List.range_succ,List.filter_append,List.map_append,List.filter_cons,h2];simp
theorem Qha {c u:List Nd} {q:Nat}(hq:q<=4)(h:u∈Na c q):u∈Ye c:=by
 rw [<-Iv];unfold Na at h⊢;cases h1:(Qi c).op==13
 ·rw [h1]at h;cases h
 rw [h1]at h;simp only [cond_true,List.mem_map,List.mem_filter,List.mem_range]at h⊢;obtain⟨i,⟨a,b⟩,e⟩:=h;exact⟨i,⟨by omega,b⟩,e⟩
def th(base:List (List Nd))(t:Nat)(f:Tr):Bool:=bif decide (0<=Yq base (Qf f))then t.testBit (Yq base (Qf f)).toNat else false
theorem Qj4(n:Nd):(n.op=3\/n.op=9\/n.op=13)\/((n.op==3)=false/\(n.op==9)=false/\(n.op==13)=false):=by
 by_cases h3:n.op=3
 ·exact .inl (.inl h3)
 by_cases h9:n.op=9
 ·exact .inl (.inr (.inl h9))
 by_cases h13:n.op=13
 ·exact .inl (.inr (.inr h13))
 exact .inr ⟨by simpa using h3,by simpa using h9,by simpa using h13⟩
theorem Qya {base:List (List Nd)} {f:List Nd} {i:Nat} {n:Nd}(hi:f[i]?=some n):(Vp base f)[i]?=some (bif Jm n then Yq base (Jb f (i:Int))else -1):=by
 unfold Vp;rw [List.getElem?_map,List.getElem?_range (List.getElem?_eq_some_iff.1 hi).1];simp only [Option.map_some,Cr hi]
theorem Qye(base:List (List Nd))(f:List Nd):(Vp base f).length=f.length:=by simp [Vp]
section
variable {base:List (List Nd)} {f:List Nd} {t i:Nat} {n:Nd}
theorem Qal(hc:check f=0)(hi:f[i]?=some n)(v:List Bool)(hv:v=(List.range i).map fun j=>ev (th base t) (tr f j)):
 Vd n (bif Jm n then Yq base (Jb f (i:Int))else -1) t v=ev (th base t) (tr f i):=by
 have hw:=Ja hc;have hil:=(List.getElem?_eq_some_iff.1 hi).1;have hs:Jb f (i:Int)=Qf (tr f i):=Fs hc hil;have ht:=Vo hw hi;obtain⟨hx,hy⟩:=hw i n hi;have gx:Qh n.op=true->v.getD n.x.toNat false=ev (th base t) (tr f n.x.toNat):=fun h=>by
  have:=hx h;rw [hv,Qk,List.getElem?_map,List.getElem?_range (by omega)];rfl
 have gy:Qc n.op=true->v.getD n.y.toNat false=ev (th base t) (tr f n.y.toNat):=fun h=>by
  have:=hy h;rw [hv,Qk,List.getElem?_map,List.getElem?_range (by omega)];rfl
 have hop:=(Sh n.op).1 (Dx hc n (List.mem_of_getElem? hi)).1;rw [hs];by_cases hb:Jm n=true
 ·have hk:∀s:Tr,tr f i=s->ev (th base t) s=th base t s->Vd n (bif Jm n then Yq base (Qf (tr f i))else -1) t v=ev (th base t) (tr f i):=fun s e1 e2=>by
   rw [hb,cond_true,e1,e2];unfold Vd th;cases hd:decide (0<=Yq base (Qf s))
   ·simp only [cond_false];have ho:n.op=3\/n.op=9\/n.op=13:=by simpa [Jm]using hb
    rcases ho with ho|ho|ho <;> simp [ho]
   simp only [cond_true]
  have ho:n.op=3\/n.op=9\/n.op=13:=by simpa [Jm]using hb
  rcases ho with ho|ho|ho
  ·exact hk (.leaf n) (by rw [ht];simp [Yv,ho,Qh,Qc]) (by simp [ev,ho])
  ·exact hk (.one n.head (tr f n.x.toNat)) (by rw [ht];simp [Yv,ho,Qh,Qc]) (by simp [ev,Bn,ho])
  exact hk (.two n.head (tr f n.x.toNat) (tr f n.y.toNat)) (by rw [ht];simp [Yv,ho,Qh,Qc]) (by simp [ev,Bn,ho])
 have hb':Jm n=false:=by simpa using hb
 rw [hb',cond_false];have h3:n.op≠3/\n.op≠9/\n.op≠13:=by simpa [Jm]using hb'
 have hneg:decide ((0:Int)<= -1)=false:=by decide
 unfold Vd;rw [hneg,cond_false,ht];by_cases h4:n.op=4
 ·rw [gx (by rw [h4];rfl)];simp [Yv,h4,Qh,Qc,ev,Bn]
 by_cases h5:n.op=5
 ·rw [gx (by rw [h5];rfl),gy (by rw [h5];rfl)];simp [Yv,h5,Qh,Qc,ev,Bn]
 by_cases h6:n.op=6
 ·rw [gx (by rw [h6];rfl),gy (by rw [h6];rfl)];simp [Yv,h6,Qh,Qc,ev,Bn]
 by_cases h7:n.op=7
 ·rw [gx (by rw [h7];rfl),gy (by rw [h7];rfl)];simp [Yv,h7,Qh,Qc,ev,Bn]
 by_cases h8:n.op=8
 ·rw [gx (by rw [h8];rfl),gy (by rw [h8];rfl)];simp [Yv,h8,Qh,Qc,ev,Bn]
 have b4:(n.op==4)=false:=by simpa using h4
 have b5:(n.op==5)=false:=by simpa using h5
 have b6:(n.op==6)=false:=by simpa using h6
 have b7:(n.op==7)=false:=by simpa using h7
 have b8:(n.op==8)=false:=by simpa using h8
 rw [b4,b5,b6,b7,b8];simp only [cond_false];unfold Yv;cases hY:Qc n.op
 ·cases hX:Qh n.op
  ·simp only [cond_false,ev,h3.1,if_false];cases n.op==1 <;> rfl
  have h1:n.op≠1:=fun e=>by rw [e]at hX;cases hX
  have b1:(n.op==1)=false:=by simpa using h1
  rw [b1];simp [ev,Bn,h4,h3.2.1]
 have h1:n.op≠1:=fun e=>by rw [e]at hY;cases hY
 have b1:(n.op==1)=false:=by simpa using h1
 rw [b1];simp [ev,Bn,h5,h6,h7,h8,h3.2.2]
theorem Qh8(hc:check f=0):∀(k i:Nat),i+k=f.length->Wv t (f.drop i) ((Vp base f).drop i) ((List.range i).map fun j=>ev (th base t) (tr f j))=(List.range f.length).map fun j=>ev (th base t) (tr f j)
 |0,i,h=>by
  have e:i=f.length:=by omega
  subst e;rw [List.drop_length];rfl
 |k+1,i,h=>by
  have hi:f[i]?=some f[i]:=List.getElem?_eq_getElem (by omega);have hp:=Qya (base:=base) hi;obtain⟨hpl,hpe⟩:=List.getElem?_eq_some_iff.1 hp;rw [List.drop_eq_getElem_cons (show i < f.length by omega),List.drop_eq_getElem_cons hpl,hpe];show Wv t _ _ (_++ [_])=_;rw [Qal hc hi _ rfl];have e:(List.range i).map (fun j=>ev (th base t) (tr f j))++ [ev (th base t) (tr f i)]=(List.range (i+1)).map fun j=>ev (th base t) (tr f j):=by
   rw [List.range_succ,List.map_append];rfl
  rw [e];exact Qh8 hc k (i+1) (by omega)
theorem Zqx(hc:check f=0):atN f (Vp base f) t=ev (th base t) (Ql f):=by
 unfold atN;have h:=Qh8 (base:=base) (t:=t) hc f.length 0 (by omega);simp only [List.drop_zero,List.range_zero,List.map_nil]at h;rw [h];have hp:=(Zm hc).1;obtain⟨k,hk⟩:∃k,f.length=k+1:=⟨f.length - 1,by omega⟩;rw [hk,List.range_succ,List.map_append,List.map_cons,List.map_nil];unfold Ql;rw [hk];simp
end
theorem Km(base:List (List Nd))(f:List Nd):(Yr base f).length=2^base.length:=by simp [Yr]
theorem Qqd {base:List (List Nd)} {f:List Nd}(hc:check f=0) {t:Nat}(ht:t < 2^base.length):(Yr base f).getD t false=ev (th base t) (Ql f):=by
 unfold Yr;rw [Qk,List.getElem?_map,List.getElem?_range ht];exact Zqx hc
def Qpv(a b:List Bool):Prop:=∀t,b.getD t false=true->a.getD t false=true
theorem Qfm(l:List Bool)(t u:Nat):(l.set t false).getD u false=(bif u==t then false else l.getD u false):=by
 rw [Qk,List.getElem?_set,Qk];by_cases h:u=t
 ·subst h;simp
  split <;> rfl
 have:(u==t)=false:=by simpa using h
 rw [this,if_neg (fun e=>h e.symm)];rfl
theorem Qwb(l:List Bool)(t:Nat):Qpv l (l.set t false):=fun u h=>by
 rw [Qfm]at h;cases e:u==t
 ·rw [e]at h;exact h
 rw [e]at h;cases h
def cnt(l:List Bool):Nat:=l.countP id
theorem Qdg:∀(l:List Bool) (t:Nat),l.getD t false=true->cnt (l.set t false)+1=cnt l
 |[],t,h=>by simp at h
 |a :: r,0,h=>by
  simp at h;subst h;simp [cnt]
 |a :: r,t+1,h=>by
  have ih:=Qdg r t (by simpa using h);unfold cnt at ih⊢;rw [List.set_cons_succ,List.countP_cons,List.countP_cons];omega
theorem Qj7(l:List Bool):cnt l<=l.length:=List.countP_le_length
section
variable {why:List Bool->Nat->Option Int}
def Xs(why:List Bool->Nat->Option Int)(s:List Bool×List (Nat×Int))(t:Nat):List Bool×List (Nat×Int):=
 bif s.1.getD t false then(match why s.1 t with|none=>s|some i=>(s.1.set t false,s.2++ [(t,i)]))else s
theorem Te(t:Nat)(r:List Nat)(s:List Bool×List (Nat×Int)):Vl why (t :: r) s=Vl why r (Xs why s t):=rfl
theorem Qzj:∀(a b:List Nat) (s:List Bool×List (Nat×Int)),Vl why (a++b) s=Vl why b (Vl why a s)
 |[],_,_=>rfl
 |t :: r,b,s=>Qzj r b (Xs why s t)
theorem Qhd(s:List Bool×List (Nat×Int))(t:Nat):(Xs why s t).1.length=s.1.length:=by
 unfold Xs;cases s.1.getD t false
 ·rfl
 cases why s.1 t with
 |none=>rfl
 |some i=>simp
theorem Qfg:∀(r:List Nat) (s:List Bool×List (Nat×Int)),(Vl why r s).1.length=s.1.length
 |[],_=>rfl
 |t :: r,s=>(Qfg r (Xs why s t)).trans (Qhd s t)
theorem Lc(s:List Bool×List (Nat×Int))(t:Nat):
 (Xs why s t=s/\(s.1.getD t false=true->why s.1 t=none))\/(∃i,s.1.getD t false=true/\why s.1 t=some i/\Xs why s t=(s.1.set t false,s.2++ [(t,i)])):=by
 unfold Xs;cases h:s.1.getD t false
 ·exact .inl ⟨rfl,fun e=>by cases e⟩
 cases hw:why s.1 t with
 |none=>exact .inl ⟨rfl,fun _=>rfl⟩
 |some i=>exact .inr ⟨i,rfl,rfl,rfl⟩
theorem Qfc(s:List Bool×List (Nat×Int))(t:Nat):cnt (Xs why s t).1+(Xs why s t).2.length=cnt s.1+s.2.length/\s.2.length<=(Xs why s t).2.length:=by
 rcases Lc (why:=why) s t with⟨e,_⟩|⟨i,h,_,e⟩
 ·rw [e];exact⟨rfl,Nat.le_refl _⟩
 rw [e];have:=Qdg s.1 t h;simp only [List.length_append,List.length_singleton];omega
theorem Mt:∀(r:List Nat) (s:List Bool×List (Nat×Int)),cnt (Vl why r s).1+(Vl why r s).2.length=cnt s.1+s.2.length/\s.2.length<=(Vl why r s).2.length
 |[],_=>⟨rfl,Nat.le_refl _⟩
 |t :: r,s=>by
  have h1:=Qfc (why:=why) s t;have h2:=Mt r (Xs why s t);rw [Te];omega
theorem On:∀(r:List Nat) (s:List Bool×List (Nat×Int)),(Vl why r s).2.length=s.2.length->Vl why r s=s/\∀t∈r,s.1.getD t false=true->why s.1 t=none
 |[],s,_=>⟨rfl,fun t h=>by cases h⟩
 |t :: r,s,h=>by
  rw [Te]at h;have h2:=(Mt (why:=why) r (Xs why s t)).2;rcases Lc (why:=why) s t with⟨e,hn⟩|⟨i,_,_,e⟩
  ·rw [e]at h;obtain⟨a,b⟩:=On r s h;rw [Te,e];refine⟨a,fun u hu=> ?_⟩;rcases List.mem_cons.1 hu with rfl|hu
   ·exact hn
   exact b u hu
  rw [e]at h h2;simp only [List.length_append,List.length_singleton]at h2;omega
theorem Qgn:∀(k:Nat) (s:List Bool×List (Nat×Int)),(Ui why k s).1.length=s.1.length
 |0,_=>rfl
 |k+1,s=>by
  unfold Ui;cases(Vl why (List.range s.1.length) s).2.length==s.2.length
  ·exact(Qgn k _).trans (Qfg _ _)
  rfl
theorem Qzo:∀(k:Nat) (s:List Bool×List (Nat×Int)),cnt s.1 < k->∀t,(Ui why k s).1.getD t false=true->why (Ui why k s).1 t=none
 |0,s,h,_=>by omega
 |k+1,s,h,t=>by
  unfold Ui;cases he:(Vl why (List.range s.1.length) s).2.length==s.2.length
  ·have hne:(Vl why (List.range s.1.length) s).2.length≠s.2.length:=by simpa using he
   have hc:=Mt (why:=why) (List.range s.1.length) s;exact Qzo k _ (by omega) t
  intro ht;have hl:t < s.1.length:=by
   by_cases e:t < s.1.length
   ·exact e
   rw [cond_true,Qk,List.getElem?_eq_none (by omega)]at ht;cases ht
  exact(On _ _ (by simpa using he)).2 t (List.mem_range.2 hl) ht
theorem Qkb {S:List Bool->Prop}(hS:∀(al:List Bool) (t:Nat) (i:Int),S al->al.getD t false=true->why al t=some i->S (al.set t false)):∀(r:List Nat) (s:List Bool×List (Nat×Int)),S s.1->S (Vl why r s).1
 |[],_,h=>h
 |t :: r,s,h=>by
  rw [Te];refine Qkb hS r _ ?_;rcases Lc (why:=why) s t with⟨e,_⟩|⟨i,h1,h2,e⟩
  ·rw [e];exact h
  rw [e];exact hS _ _ _ h h1 h2
theorem Wn {S:List Bool->Prop}(hS:∀(al:List Bool) (t:Nat) (i:Int),S al->al.getD t false=true->why al t=some i->S (al.set t false)):∀(k:Nat) (s:List Bool×List (Nat×Int)),S s.1->S (Ui why k s).1
 |0,_,h=>h
 |k+1,s,h=>by
  unfold Ui;cases(Vl why (List.range s.1.length) s).2.length==s.2.length
  ·exact Wn hS k _ (Qkb hS _ _ h)
  exact h
end
theorem Wx(lk:List Bool->Nat->Int->Bool):∀(ts:List Nat) (ws:List Int) (al al':List Bool) (t:Nat) (i:Int),ts.length=ws.length->Uy lk ts ws al=some al'->Uy lk (ts++ [t]) (ws++ [i]) al=(bif decide (t < al'.length)&&(al'.getD t false&&lk al' t i)then some (al'.set t false)else none)
 |[],[],al,al',t,i,_,h=>by
  have e:al=al':=by simpa [Uy]using h
  subst e;rfl
 |[],_ :: _,_,_,_,_,h,_=>by simp at h
 |_ :: _,[],_,_,_,_,h,_=>by simp at h
 |a :: r,b :: s,al,al',t,i,hl,h=>by
  simp only [List.cons_append,Uy]at h⊢;cases hc:decide (a < al.length)&&(al.getD a false&&lk al a b)
  ·rw [hc]at h;cases h
  rw [hc]at h;exact Wx lk r s _ al' t i (by simpa using hl) h
section
variable {why:List Bool->Nat->Option Int} {lk:List Bool->Nat->Int->Bool} (hwl:∀al t i,why al t=some i->lk al t i=true)
include hwl
def Fv(lk:List Bool->Nat->Int->Bool)(al0:List Bool)(s:List Bool×List (Nat×Int)):Prop:=Uy lk (s.2.map Prod.fst) (s.2.map Prod.snd) al0=some s.1
theorem Qfh {al0:List Bool} {s:List Bool×List (Nat×Int)}(t:Nat)(h:Fv lk al0 s):Fv lk al0 (Xs why s t):=by
 rcases Lc (why:=why) s t with⟨e,_⟩|⟨i,h1,h2,e⟩
 ·rw [e];exact h
 rw [e];unfold Fv;simp only [List.map_append,List.map_cons,List.map_nil];rw [Wx lk _ _ _ _ _ _ (by simp) h];have hl:t < s.1.length:=by
  by_cases e:t < s.1.length
  ·exact e
  rw [Qk,List.getElem?_eq_none (by omega)]at h1;cases h1
 rw [h1,hwl _ _ _ h2,decide_eq_true hl];rfl
theorem Ot {al0:List Bool} :∀(r:List Nat) (s:List Bool×List (Nat×Int)),Fv lk al0 s->Fv lk al0 (Vl why r s)
 |[],_,h=>h
 |t :: r,_,h=>Ot r _ (Qfh hwl t h)
theorem Wr {al0:List Bool} :∀(k:Nat) (s:List Bool×List (Nat×Int)),Fv lk al0 s->Fv lk al0 (Ui why k s)
 |0,_,h=>h
 |k+1,s,h=>by
  unfold Ui;cases(Vl why (List.range s.1.length) s).2.length==s.2.length
  ·exact Wr k _ (Ot hwl _ _ h)
  exact h
end
section
variable {l:List (List Nd)} {t0:Tr} (hB:Rl l t0)
include hB
theorem Fj {s:Tr}(hs:s∈l.map Ql):∃i,l[i]?=some (Qf s)/\i < l.length/\∀t,th l t s=t.testBit i:=by
 obtain⟨_,hm⟩:=(Yt hB.can).1 hs;obtain⟨i,hi,e⟩:=List.getElem_of_mem hm;have hg:l[i]?=some (Qf s):=by rw [Qv hi,e]
 refine⟨i,hg,hi,fun t=> ?_⟩;unfold th;rw [Xv hB.nodup hg,decide_eq_true (by omega),cond_true,Int.toNat_natCast]
theorem Qzl {i:Nat} {c:List Nd}(hi:l[i]?=some c):∃s,Xf s/\c=Qf s/\Jm s.top=true/\s∈l.map Ql:=by
 obtain⟨s,hs,e,hb⟩:=hB.can c (List.mem_of_getElem? hi);exact⟨s,hs,e,hb,(Yt hB.can).2 ⟨hs,e▸List.mem_of_getElem? hi⟩⟩
theorem Xc {k:Kn} :k∈Zg l↔∃i n a,.one n a∈l.map Ql/\l[i]?=some (Qf (.one n a))/\k=⟨n.i,i,Yr l (Qf a)⟩:=by
 unfold Zg;rw [List.mem_flatMap];constructor
 ·rintro⟨i,hi,hk⟩;have hil:=List.mem_range.1 hi;have hg:l[i]?=some (l.getD i []):=by rw [Qk,Qv hil];rfl
  obtain⟨s,hs,e,hb,hm⟩:=Qzl hB hg;rw [e]at hk hg;unfold Lz at hk;rw [hs.last]at hk;cases ho:s.top.op==9
  ·rw [ho]at hk;cases hk
  rw [ho]at hk;have ho9:s.top.op=9:=by simpa using ho
  cases s with
  |leaf n=>have:=hs.xp.1.1.1;rw [show n.op=9 from ho9]at this;cases this
  |two n a b=>have:=hs.xp.1.1.2.1;rw [show n.op=9 from ho9]at this;cases this
  |one n a =>
   obtain⟨_,e2,_,e4,_⟩:=Qz6 hs.check hs.tree;rw [e2,e4]at hk;exact⟨i,n,a,hm,hg,by simpa using hk⟩
 rintro⟨i,n,a,hm,hg,rfl⟩;have hil:=(List.getElem?_eq_some_iff.1 hg).1;obtain⟨hs,_⟩:=(Yt hB.can).1 hm;refine⟨i,List.mem_range.2 hil,?_⟩;have e:l.getD i []=Qf (.one n a):=by rw [Qk,hg];rfl
 obtain⟨e1,e2,_,e4,_⟩:=Qz6 hs.check hs.tree;unfold Lz;rw [e,e1,e2,e4,(hB.closed.know n a hm).1];simp
theorem Dz {k:Cm} :k∈Zc l↔∃i n a b,.two n a b∈l.map Ql/\l[i]?=some (Qf (.two n a b))/\k=⟨i,n.g,Yr l (Qf a),Yr l (Qf b),Ds l (Qf (.two n a b))⟩:=by
 unfold Zc;rw [List.mem_flatMap];constructor
 ·rintro⟨i,hi,hk⟩;have hil:=List.mem_range.1 hi;have hg:l[i]?=some (l.getD i []):=by rw [Qk,Qv hil];rfl
  obtain⟨s,hs,e,hb,hm⟩:=Qzl hB hg;rw [e]at hk hg;unfold Sn at hk;rw [hs.last]at hk;cases ho:s.top.op==13
  ·rw [ho]at hk;cases hk
  rw [ho]at hk;obtain⟨n,a,b,rfl,_⟩:=Ce hs (by simpa using ho);obtain⟨_,e2,e3,e4⟩:=Nh hs.check hs.tree;rw [e2,e3,e4]at hk;exact⟨i,n,a,b,hm,hg,by simpa using hk⟩
 rintro⟨i,n,a,b,hm,hg,rfl⟩;have hil:=(List.getElem?_eq_some_iff.1 hg).1;obtain⟨hs,_⟩:=(Yt hB.can).1 hm;refine⟨i,List.mem_range.2 hil,?_⟩;have e:l.getD i []=Qf (.two n a b):=by rw [Qk,hg];rfl
 obtain⟨e1,e2,e3,e4⟩:=Nh hs.check hs.tree;unfold Sn;rw [e,e1,e2,e3,e4,(hB.closed.com n a b hm).1];simp
end
theorem Qfs {lg:Int} :Fz lg=true↔Qxm lg:=by
 unfold Fz Qxm;simp
theorem Wc:∀(L:List Nat) (p j:Nat),(L.foldl (fun p x=>p|||2^x) p).testBit j=(p.testBit j||decide (j∈L))
 |[],p,j=>by simp
 |x :: r,p,j=>by
  rw [List.foldl_cons,Wc r,Nat.testBit_or,Nat.testBit_two_pow];by_cases h:x=j
  ·subst h;simp
  have h':¬j=x:=fun e=>h e.symm
  simp [h,h',List.mem_cons]
theorem Qar {t F:Nat} :((t&&&F)==F)=true↔∀j,F.testBit j=true->t.testBit j=true:=by
 rw [beq_iff_eq];constructor
 ·intro h j hj;have:=congrArg (fun x=>x.testBit j) h;simp only [Nat.testBit_and,hj,Bool.and_true]at this;exact this
 intro h;refine Nat.eq_of_testBit_eq fun j=> ?_
 rw [Nat.testBit_and];cases hj:F.testBit j
 ·simp
 rw [h j hj];rfl
section
variable {l:List (List Nd)} {t0:Tr} (hB:Rl l t0)
include hB
theorem Qkg {n:Nd} {a b:Tr}(hm:.two n a b∈l.map Ql)(t:Nat):((t&&&Ds l (Qf (.two n a b)))==Ds l (Qf (.two n a b)))=true↔∀i:Nat,i < 4->Yl n.g i=true->th l t (Xt i n a b)=true:=by
 obtain⟨hs,_⟩:=(Yt hB.can).1 hm;obtain⟨_,e2,_,_⟩:=Nh hs.check hs.tree;have hu:∀i,i < 4->Yl n.g i=true->Gl i (Qf (.two n a b))=Qf (Xt i n a b):=fun i hi hg=>by
  obtain⟨hx,_⟩:=(Yt hB.can).1 ((hB.closed.com n a b hm).2.2.2.2.2 i hi hg);rw [hs.unf hi,hx.short]
 have hth:∀i,i < 4->Yl n.g i=true->th l t (Xt i n a b)=t.testBit (Yq l (Gl i (Qf (.two n a b)))).toNat:=fun i hi hg=>by
  obtain⟨j,hj,_,h⟩:=Fj hB ((hB.closed.com n a b hm).2.2.2.2.2 i hi hg);rw [h,hu i hi hg,Xv hB.nodup hj,Int.toNat_natCast]
 have hpe:Ds l (Qf (.two n a b))=(((List.range 4).filter fun i=>Yl n.g i).map fun i=>(Yq l (Gl i (Qf (.two n a b)))).toNat).foldl (fun p x=>p|||2^x) 0:=by
  unfold Ds;rw [e2,List.foldl_map]
 rw [Qar,hpe];constructor
 ·intro h i hi hg;rw [hth i hi hg];refine h _ ?_;rw [Wc];simp only [Nat.zero_testBit,Bool.false_or,decide_eq_true_iff,List.mem_map];exact⟨i,List.mem_filter.2 ⟨List.mem_range.2 hi,hg⟩,rfl⟩
 intro h j hj;rw [Wc]at hj;simp only [Nat.zero_testBit,Bool.false_or,decide_eq_true_iff,List.mem_map]at hj;obtain⟨i,hi,rfl⟩:=hj;obtain⟨h1,h2⟩:=List.mem_filter.1 hi;have h1:=List.mem_range.1 h1;rw [<-hth i h1 h2];exact h i h1 h2
theorem Sp {n:Nd} {a:Tr}(hm:.one n a∈l.map Ql) {u:Nat}(hu:u < 2^l.length):(Yr l (Qf a)).getD u false=ev (th l u) a:=by
 obtain⟨hs,_⟩:=(Yt hB.can).1 hm;rw [Qqd hs.of_one.check hu,hs.of_one.tree]
theorem Wb {n:Nd} {a b:Tr}(hm:.two n a b∈l.map Ql) {u:Nat}(hu:u < 2^l.length):(Yr l (Qf a)).getD u false=ev (th l u) a/\(Yr l (Qf b)).getD u false=ev (th l u) b:=by
 obtain⟨hs,_⟩:=(Yt hB.can).1 hm;rw [Qqd hs.of_two.1.check hu,hs.of_two.1.tree,Qqd hs.of_two.2.check hu,hs.of_two.2.tree];exact⟨rfl,rfl⟩
theorem Qvv {lg:Int} {t:Nat}(ht:t < 2^l.length):Ys lg (Zg l) (Zc l) t=true↔Coh lg (l.map Ql) (th l t):=by
 unfold Ys;rw [Bool.and_eq_true,List.all_eq_true,List.all_eq_true];constructor
 ·rintro⟨h1,h2⟩;refine⟨fun n a b hm=> ?_,fun hr n a hm hth=> ?_⟩
  ·obtain⟨i,hg,_,hi⟩:=Fj hB hm;have:=h1 _ ((Dz hB).2 ⟨i,n,a,b,hm,hg,rfl⟩);rw [beq_iff_eq]at this;simp only at this;rw [hi,this,Qkg hB hm]
  obtain⟨i,hg,_,hi⟩:=Fj hB hm;have:=h2 _ ((Xc hB).2 ⟨i,n,a,hm,hg,rfl⟩);simp only at this;rw [(Qfs).2 hr,<-hi,hth,Sp hB hm ht]at this
  simpa using this
 rintro⟨h1,h2⟩;constructor
 ·intro c hc;obtain⟨i,n,a,b,hm,hg,rfl⟩:=(Dz hB).1 hc;obtain⟨j,hg',_,hi⟩:=Fj hB hm;have hij:j=i:=by
   have e1:=Xv hB.nodup hg;have e2:=Xv hB.nodup hg';omega
  subst hij;rw [beq_iff_eq,Bool.eq_iff_iff,Qkg hB hm,<-h1 n a b hm,hi]
 intro k hk;obtain⟨i,n,a,hm,hg,rfl⟩:=(Xc hB).1 hk;obtain⟨j,hg',_,hi⟩:=Fj hB hm;have hij:j=i:=by
  have e1:=Xv hB.nodup hg;have e2:=Xv hB.nodup hg';omega
 subst hij;simp only;cases hr:Fz lg
 ·rfl
 rw [<-hi,Sp hB hm ht];cases hth:th l t (.one n a)
 ·rfl
 rw [h2 ((Qfs).1 hr) n a hm hth];rfl
theorem Ua {lg:Int} {i:Int} {t u:Nat}(hu:u < 2^l.length):Ze lg (Zg l) i t u=true↔Sb lg (l.map Ql) i (th l t) (th l u):=by
 unfold Ze Sb;rw [List.all_eq_true];constructor
 ·intro h n a hm hni;obtain⟨j,hg,_,hi⟩:=Fj hB hm;have:=h _ ((Xc hB).2 ⟨j,n,a,hm,hg,rfl⟩);simp only at this;rw [Sp hB hm hu,<-hi,<-hi]at this;have hne:(n.i !=i)=false:=by simpa using hni
  rw [hne]at this
  simpa using this
 intro h k hk;obtain⟨j,n,a,hm,hg,rfl⟩:=(Xc hB).1 hk;obtain⟨j',hg',_,hi⟩:=Fj hB hm;have hij:j'=j:=by
  have e1:=Xv hB.nodup hg;have e2:=Xv hB.nodup hg';omega
 subst hij;simp only;rw [Sp hB hm hu,<-hi,<-hi];by_cases hni:n.i=i
 ·rw [h n a hm hni,Bool.or_true]
 have:(n.i !=i)=true:=by simpa using hni
 rw [this];rfl
end
theorem Qse {α:Type} {l:List α} {k:Nat} {a:α}(h:l[k]?=some a):l.take (k+1)=l.take k++ [a]:=by
 obtain⟨hk,e⟩:=List.getElem?_eq_some_iff.1 h;rw [List.take_succ_eq_append_getElem hk,e]
theorem Fc {l:List Nd} {k:Nat} {n:Nd}(hn:l[k]?=some n) {d d':List (List Nd)}(h:Gy (l.take k) d=some d'):
 Gy (l.take (k+1)) d=bif decide ((Js n (d'.getD n.x.toNat []) (d'.getD n.y.toNat [])).length=0)then none else some (d'++ [Js n (d'.getD n.x.toNat []) (d'.getD n.y.toNat [])]):=by
 have key:∀(a b:List Nd) (d d':List (List Nd)),Gy a d=some d'->Gy (a++b) d=Gy b d':=by
  intro a
  induction a with
  |nil=>intro b d d' h;injection h with h;subst h;rfl
  |cons x r ih =>
   intro b d d' h;simp only [Gy,List.cons_append]at h⊢;cases hz:decide ((Js x (d.getD x.x.toNat []) (d.getD x.y.toNat [])).length=0)
   ·rw [hz]at h;exact ih b _ _ h
   rw [hz]at h;cases h
 rw [Qse hn,key _ _ _ _ h];simp only [Gy]
theorem Lg {l:List Nd} {k:Nat} {d:List (List Nd)}(h:Gy (l.take k) d=none):Gy l d=none:=by
 have key:∀(a b:List Nd) (d:List (List Nd)),Gy a d=none->Gy (a++b) d=none:=by
  intro a
  induction a with
  |nil=>intro b d h;cases h
  |cons x r ih =>
   intro b d h;simp only [Gy,List.cons_append]at h⊢;cases hz:decide ((Js x (d.getD x.x.toNat []) (d.getD x.y.toNat [])).length=0)
   ·rw [hz]at h;exact ih b _ h
   rfl
 have:=key _ (l.drop k) d h
 rwa [List.take_append_drop]at this
theorem Qrj {n:Nd} {a a' b b':List Nd}(hx:Qh n.op=true->a=a')(hy:Qc n.op=true->b=b')(ho:Nz n.op):Js n a b=Js n a' b':=by
 have hop:n.op=1\/n.op=2\/n.op=3\/n.op=4\/n.op=5\/n.op=6\/n.op=7\/n.op=8\/n.op=9\/n.op=10\/n.op=11\/n.op=13:=by unfold Nz at ho;omega
 unfold Js;rcases hop with h|h|h|h|h|h|h|h|h|h|h|h
 ·simp [h]
 ·simp [h]
 ·simp [h]
 ·rw [hx (by rw [h];rfl)];simp [h]
 ·rw [hx (by rw [h];rfl),hy (by rw [h];rfl)]
 ·rw [hx (by rw [h];rfl),hy (by rw [h];rfl)]
 ·rw [hx (by rw [h];rfl),hy (by rw [h];rfl)]
 ·rw [hx (by rw [h];rfl),hy (by rw [h];rfl)]
 ·rw [hx (by rw [h];rfl)];simp [h]
 ·rw [hx (by rw [h];rfl)];simp [h]
 ·rw [hx (by rw [h];rfl)];simp [h]
 rw [hx (by rw [h];rfl),hy (by rw [h];rfl)]
theorem Qb9:∀(r:List Tr) (t:Tr),t.all Sr->(∀u∈r,u.all Sr)->(Lk t r).all Sr
 |[],_,ht,_=>ht
 |u :: r,t,ht,hr=>Qb9 r _ ⟨.inl ⟨by decide,by decide⟩,ht,hr u (List.mem_cons_self ..)⟩ (fun v hv=>hr v (List.mem_cons_of_mem _ hv))
theorem Qoe:∀(l:List Tr),(∀u∈l,u.all Sr)->(Lq l).all Sr
 |[],_=> .inl ⟨by decide,by decide⟩
 |t :: r,h=>Qb9 r t (h t (List.mem_cons_self ..)) (fun v hv=>h v (List.mem_cons_of_mem _ hv))
theorem Qeq {n:Nd} {a b:Tr}(ho:Nz n.op)(ha:Qh n.op=true->a.all Sr)(hb:Qc n.op=true->b.all Sr):(Dy n a b).all Sr:=by
 unfold Dy;by_cases h10:n.op=10
 ·rw [if_pos h10];have h:=ha (by rw [h10];rfl);exact⟨.inl ⟨by decide,by decide⟩,.inl ⟨show(1:Int)<=9 by decide,show(9:Int)<=9 by decide⟩,.inl ⟨by decide,by decide⟩,h⟩
 rw [if_neg h10];by_cases h11:n.op=11
 ·rw [if_pos h11];have h:=ha (by rw [h11];rfl);refine Qoe _ fun u hu=> ?_
  obtain⟨i,_,rfl⟩:=List.mem_map.1 hu;exact⟨.inl ⟨show(1:Int)<=9 by decide,show(9:Int)<=9 by decide⟩,h⟩
 rw [if_neg h11];have hn:Sr n:=by unfold Nz at ho;unfold Sr;omega
 unfold Yv;cases h2:Qc n.op
 ·cases h1:Qh n.op
  ·exact hn
  exact⟨hn,ha h1⟩
 exact⟨hn,ha (Vz h2),hb h2⟩
theorem Qyv {α:Type}(g:Nat->α)(d:α) {k j:Nat}(h:j < k):((List.range k).map g).getD j d=g j:=by
 rw [Qk,List.getElem?_map,List.getElem?_range h];rfl
theorem Qq4 {c:List Nd}(hw:Wf c)(hh:∀n∈c,Zn n)(hl:∀n∈c,Nz n.op):∀(k:Nat) (d:List (List Nd)),k<=c.length->Gy (c.take k) []=some d->
 d=(List.range k).map (fun j=>Qf (Vq (tr c j)))/\∀j,j < k->Xf (Vq (tr c j))
 |0,d,_,h=>by
  injection h with h;exact⟨h.symm,fun j hj=>absurd hj (by omega)⟩
 |k+1,d,hk,h=>by
  obtain⟨n,hn⟩:∃n,c[k]?=some n:=⟨_,List.getElem?_eq_getElem (by omega)⟩;cases hd:Gy (c.take k) []with
  |none =>
   have hp:c.take k=(c.take (k+1)).take k:=by rw [List.take_take];congr 1;omega
   rw [hp]at hd;rw [Lg hd]at h;cases h
  |some d' =>
   obtain⟨e1,e2⟩:=Qq4 hw hh hl k d' (by omega) hd;rw [Fc hn hd]at h;have hm:=List.mem_of_getElem? hn;obtain⟨hx,hy⟩:=hw k n hn;have gx:Qh n.op=true->d'.getD n.x.toNat []=Zp (Vq (tr c n.x.toNat)):=fun h1=>by
    have:=hx h1;rw [e1,Qyv (fun j=>Qf (Vq (tr c j))) [] (by omega),(e2 _ (by omega)).short]
   have gy:Qc n.op=true->d'.getD n.y.toNat []=Zp (Vq (tr c n.y.toNat)):=fun h1=>by
    have:=hy h1;rw [e1,Qyv (fun j=>Qf (Vq (tr c j))) [] (by omega),(e2 _ (by omega)).short]
   have hE:=Qry (a:=Vq (tr c n.x.toNat)) (b:=Vq (tr c n.y.toNat)) (hh n hm) (hl n hm) (fun h1=>by have:=hx h1;exact(e2 _ (by omega)).xp.1) (fun h1=>by have:=hy h1;exact(e2 _ (by omega)).xp.1);have hX:=Qeq (a:=Vq (tr c n.x.toNat)) (b:=Vq (tr c n.y.toNat)) (hl n hm) (fun h1=>by have:=hx h1;exact(e2 _ (by omega)).xp.2) (fun h1=>by have:=hy h1;exact(e2 _ (by omega)).xp.2);have ht:Dy n (Vq (tr c n.x.toNat)) (Vq (tr c n.y.toNat))=Vq (tr c k):=by rw [Vo hw hn,Qez]
   rw [Qrj gx gy (hl n hm),hE.1,ht]at h;rw [ht]at hE hX;cases hz:decide ((Zp (Vq (tr c k))).length=0)
   ·rw [hz]at h;injection h with h;have hlen:(Qf (Vq (tr c k))).length<=200:=by
     by_cases e:(Qf (Vq (tr c k))).length<=200
     ·exact e
     have:=of_decide_eq_false hz;rw [Kf (by omega)]at this;exact absurd rfl this
    rw [Xx hlen,e1]at h;refine⟨?_,fun j hj=> ?_⟩
    ·rw [<-h,List.range_succ,List.map_append];rfl
    by_cases e:j < k
    ·exact e2 j e
    have:j=k:=by omega
    subst this;exact⟨⟨hE.2,hX⟩,hlen⟩
   rw [hz]at h;cases h
theorem Qla {l:List Nd}(h:Kq l&&&500=0):∀n∈l,(Yd n.op).toNat&&&500=0:=by
 have key:∀(l:List Nd) (m:Nat),(l.foldl (fun m n=>m|||(Yd n.op).toNat) m)&&&500=0->m&&&500=0/\∀n∈l,(Yd n.op).toNat&&&500=0:=by
  intro l
  induction l with
  |nil=>intro m h;exact⟨h,fun n hn=>by cases hn⟩
  |cons a r ih =>
   intro m h;obtain⟨h1,h2⟩:=ih _ h;rw [Nat.and_or_distrib_right]at h1;have l1:m&&&500<=m&&&500|||(Yd a.op).toNat&&&500:=Nat.left_le_or;have l2:(Yd a.op).toNat&&&500<=m&&&500|||(Yd a.op).toNat&&&500:=Nat.right_le_or;refine⟨by omega,fun n hn=> ?_⟩;rcases List.mem_cons.1 hn with rfl|hn
   ·omega
   exact h2 n hn
 exact(key l 0 h).2
theorem Nc {f:List Nd}(hc:check f=0)(hl:Kl f=false):∀n∈Qg f,Nz n.op:=by
 intro n hn;unfold Kl Jh at hl;have hb:=Qla (by simpa using hl) n hn;have ho:=(Sh n.op).1 ((Jf hc).2.2.2 n hn).1;have:n.op=1\/n.op=2\/n.op=3\/n.op=4\/n.op=5\/n.op=6\/n.op=7\/n.op=8\/n.op=9\/n.op=10\/n.op=11\/n.op=12\/n.op=13\/n.op=14\/n.op=15\/n.op=16\/n.op=17\/n.op=18\/n.op=19\/n.op=20\/n.op=21:=by omega
 unfold Nz;rcases this with h|h|h|h|h|h|h|h|h|h|h|h|h|h|h|h|h|h|h|h|h <;> first|omega|(rw [h]at hb;exact absurd hb (by decide))
theorem Qq5 {f:List Nd}(hc:check f=0)(hl:Kl f=false)(hne:(Jd f).length≠0):Xf (Vq (Ql f))/\Jd f=Qf (Vq (Ql f)):=by
 obtain⟨hw,_,hp,hh⟩:=Jf hc;unfold Jd at hne⊢;cases hd:Gy (Qg f) []with
 |none=>rw [hd]at hne;exact absurd rfl hne
 |some d =>
  have h:=Qq4 hw hh (Nc hc hl) (Qg f).length d (Nat.le_refl _) (by rw [List.take_of_length_le (Nat.le_refl _)];exact hd);obtain⟨e1,e2⟩:=h;have et:tr (Qg f) ((Qg f).length - 1)=Ql f:=Vc hc;have hx:=e2 ((Qg f).length - 1) (by omega);rw [et]at hx;refine⟨hx,?_⟩;show d.getLastD []=_;obtain⟨m,hm⟩:∃m,(Qg f).length=m+1:=⟨(Qg f).length - 1,by omega⟩;rw [e1,hm,List.range_succ,List.map_append];rw [hm]at et;simp only [List.map_cons,List.map_nil,List.getLastD_concat];rw [<-et];rfl
end Go.Proofs.YtkmclcmnoicagaaGreatDoor
