/- The expansion of a formula, by trees. -/
import Derived.Test.YtkmclcmnoicagaaGreatDoorM01
import Derived.Test.YtkmclcmnoicagaaGreatDoorM17
import Derived.Test.YtkmclcmnoicagaaGreatDoorM09
namespace Go.Proofs.YtkmclcmnoicagaaGreatDoor
set_option maxRecDepth 100000
set_option maxHeartbeats 128000000
def My:Tr->List Tr->Tr
 |t,[]=>t
 |t,u :: r=>My (.two ⟨5,0,0,0,0,0⟩ t u) r
def Le:List Tr->Tr
 |[]=> .leaf ⟨1,0,0,0,0,0⟩
 |t :: r=>My t r
def Ls(g:Int)(a:Tr):List Tr:=((List.range 4).filter fun i=>Yi g i).map fun(i:Nat)=> .one ⟨9,i,0,0,0,0⟩ a
def Dz(n:Nd)(a b:Tr):Tr :=
 if n.op=10 then .one ⟨4,0,0,0,0,0⟩ (.one ⟨9,n.i,0,0,0,0⟩ (.one ⟨4,0,0,0,0,0⟩ a))
 else if n.op=11 then Le (Ls n.g a)
 else Yh n a b
def Vn:Tr->Tr
 |.leaf n=> .leaf n
 |.one n a=>if n.op=10 then .one ⟨4,0,0,0,0,0⟩ (.one ⟨9,n.i,0,0,0,0⟩ (.one ⟨4,0,0,0,0,0⟩ (Vn a)))else if n.op=11 then Le (Ls n.g (Vn a))else .one n (Vn a)
 |.two n a b=> .two n (Vn a) (Vn b)
theorem Qef(n:Nd)(a b:Tr):Vn (Yh n a b)=Dz n (Vn a) (Vn b):=by
 unfold Yh Dz;cases h2:Qh n.op
 ·cases h1:Qe n.op
  ·have h10:n.op≠10:=fun e=>by rw [e]at h1;cases h1
   have h11:n.op≠11:=fun e=>by rw [e]at h1;cases h1
   rw [if_neg h10,if_neg h11];unfold Yh;rw [h1,h2];rfl
  unfold Yh;rw [h1,h2];simp only [cond_false,cond_true,Vn,Bg];rfl
 have h10:n.op≠10:=fun e=>by rw [e]at h2;cases h2
 have h11:n.op≠11:=fun e=>by rw [e]at h2;cases h2
 rw [if_neg h10,if_neg h11];unfold Yh;rw [h2];rfl
section
variable {M:KM}
theorem Qbb:∀(r:List Tr) (t:Tr) (w:M.W),M.sat (My t r) w↔M.sat t w/\∀u∈r,M.sat u w
 |[],t,w=>by simp [My]
 |u :: r,t,w=>by
  rw [My,Qbb r,Qkn];simp only [List.mem_cons,forall_eq_or_imp];exact and_assoc
theorem Qws(l:List Tr)(w:M.W):M.sat (Le l) w↔∀u∈l,M.sat u w:=by
 cases l with
 |nil=>simp [Le,KM.sat]
 |cons t r=>rw [Le,Qbb];simp
theorem Qm7(g:Int)(a:Tr)(w:M.W):M.sat (Le (Ls g a)) w↔∀i:Nat,i < 4->Yi g i=true->∀v,M.R (i:Int) w v->M.sat a v:=by
 rw [Qws];unfold Ls;constructor
 ·intro h i hi hg v hv;exact(Gw rfl).1 (h (.one ⟨9,i,0,0,0,0⟩ a) (List.mem_map.2 ⟨i,List.mem_filter.2 ⟨List.mem_range.2 hi,hg⟩,rfl⟩)) v hv
 intro h u hu;obtain⟨i,hi,rfl⟩:=List.mem_map.1 hu;obtain⟨h1,h2⟩:=List.mem_filter.1 hi;rw [Gw rfl];exact h i (List.mem_range.1 h1) h2
theorem Qwp {a:Tr} {w:M.W} :M.sat (.one ⟨4,0,0,0,0,0⟩ a) w↔¬M.sat a w:=by simp [KM.sat]
theorem Pj:∀(t:Tr) (w:M.W),M.sat (Vn t) w↔M.sat t w
 |.leaf n,w=>Iff.rfl
 |.one n a,w=>by
  have ih:=Pj a;unfold Vn;by_cases h10:n.op=10
  ·rw [if_pos h10,Qwp,Gw rfl];simp only [ih,KM.sat,h10,show ¬(10:Int)=4 by decide,show ¬(10:Int)=9 by decide,if_false,if_true];constructor
   ·intro h;obtain⟨v,hv⟩:=Classical.not_forall.1 h;obtain⟨h1,h2⟩:=Classical.not_imp.1 hv;exact⟨v,h1,Classical.not_not.1 h2⟩
   rintro⟨v,h1,h2⟩ h;exact h v h1 h2
  rw [if_neg h10];by_cases h11:n.op=11
  ·rw [if_pos h11,Qm7];simp only [ih,KM.sat,h11,show ¬(11:Int)=4 by decide,show ¬(11:Int)=9 by decide,show ¬(11:Int)=10 by decide,if_false,if_true]
  rw [if_neg h11];simp only [KM.sat,ih,h10,h11,if_false]
 |.two n a b,w=>by
  have iha:M.sat (Vn a)=M.sat a:=funext fun v=>propext (Pj a v)
  have ihb:M.sat (Vn b)=M.sat b:=funext fun v=>propext (Pj b v)
  simp only [Vn,KM.sat,iha,ihb]
end
def Hd(t:Tr):Prop:=t.ok/\t.all Zp
section
variable {n:Nd} {s t u:Tr}
theorem Hd.wf(h:Hd t):Wf (Qn t):=Es h.1
theorem Hd.check(h:Hd t)(hl:(Qn t).length<=200):check (Qn t)=0:=by
 have hp:=Gr h.1;exact Qjk (by intro e;rw [e]at hp;simp at hp) hl h.wf (fun n hn=>Rs (fun _ k1 k2 h=>h.with_ k1 k2) t [] h.2 (fun n hn=>by cases hn) n hn)
theorem Hd.one(h1:Qe n.op=true)(h2:Qh n.op=false)(hh:Zp n)(hn:n.head=n)(hs:Hd s):Hd (.one n s):=⟨⟨h1,h2,hn,hs.1⟩,hh,hs.2⟩
theorem Hd.two(h1:Qe n.op=true)(h2:Qh n.op=true)(hh:Zp n)(hn:n.head=n)(hs:Hd s)(ht:Hd t):Hd (.two n s t):=⟨⟨h1,h2,hn,hs.1,ht.1⟩,hh,hs.2,ht.2⟩
theorem Qky(hs:Hd s)(h1:Qe n.op=true)(h2:Qh n.op=false)(hh:Zp n)(hn:n.head=n):Yp n [Zh s]=Zh (.one n s):=by
 have ho:(Tr.one n s).ok:=⟨h1,h2,hn,hs.1⟩;by_cases hl:(Qn s).length<=200
 ·rw [Xn hl,Qy1 (hs.check hl) h1 h2 hh,hn,Vc hs.1]
 have:=Qnw ho;rw [Kp (t:=s) (by omega),Kp (t:=.one n s) (by omega),Qyi Dh]
theorem Qsv(hs:Hd s)(ht:Hd t)(h1:Qe n.op=true)(h2:Qh n.op=true)(hh:Zp n)(hn:n.head=n):Yp n [Zh s,Zh t]=Zh (.two n s t):=by
 have ho:(Tr.two n s t).ok:=⟨h1,h2,hn,hs.1,ht.1⟩;have hlen:=Qkm ho;by_cases hl:(Qn s).length<=200
 ·by_cases hm:(Qn t).length<=200
  ·rw [Xn hl,Xn hm,Qrd (hs.check hl) (ht.check hm) h1 h2 hh,hn,Vc hs.1,Vc ht.1]
  rw [Kp (t:=t) (by omega),Kp (t:=.two n s t) (by omega),Qy0 (.inr Dh)]
 rw [Kp (t:=s) (by omega),Kp (t:=.two n s t) (by omega),Qy0 (.inl Dh)]
end
theorem Qre {s:Tr}(hs:Hd s):Qg (Zh s)=Zh s:=by
 by_cases hl:(Qn s).length<=200
 ·rw [Xn hl,Gc (hs.check hl),Vc hs.1]
 rw [Kp (by omega),Qfj Dh]
theorem Qra {s:Tr}(hs:Hd s)(hl:(Qn s).length<=200):Qg (Qn s)=Qn s:=by
 rw [Gc (hs.check hl),Vc hs.1]
theorem Ik(k:Int)(hk:k=5\/k=7):Zp ⟨k,0,0,0,0,0⟩:=by rcases hk with rfl|rfl <;> exact⟨rfl,rfl,rfl,fun _=>rfl,fun _=>rfl⟩
theorem Qfm:Zp ⟨4,0,0,0,0,0⟩:=⟨rfl,rfl,rfl,fun _=>rfl,fun _=>rfl⟩
theorem Qvy {i:Int}(h0:0<=i)(h1:i < 4):Zp ⟨9,i,0,0,0,0⟩:=by
 refine⟨rfl,by simp [Ji,Zm,Zz,Zn,Zg],?_,fun _=>rfl,fun _=>rfl⟩;simp [Yb,Jy,Zm,Zz,Zn,Zg];omega
theorem Qvj {s:Tr}(hs:Hd s):Hd (.one ⟨4,0,0,0,0,0⟩ s):=hs.one rfl rfl Qfm rfl
theorem Qq2 {i:Int}(h0:0<=i)(h1:i < 4) {s:Tr}(hs:Hd s):Hd (.one ⟨9,i,0,0,0,0⟩ s):=hs.one rfl rfl (Qvy h0 h1) rfl
theorem Qlp {s t:Tr}(hs:Hd s)(ht:Hd t):Hd (.two ⟨5,0,0,0,0,0⟩ s t):=hs.two rfl rfl (Ik 5 (by omega)) rfl ht
theorem Qit {s t:Tr}(hs:Hd s)(ht:Hd t):Hd (.two ⟨7,0,0,0,0,0⟩ s t):=hs.two rfl rfl (Ik 7 (by omega)) rfl ht
theorem Qem:Hd (.leaf ⟨1,0,0,0,0,0⟩):=⟨⟨rfl,rfl⟩,rfl,rfl,rfl,fun _=>rfl,fun _=>rfl⟩
theorem Qya:∀(r:List Tr) (t:Tr),Hd t->(∀u∈r,Hd u)->(r.map Zh).foldl Uo (Zh t)=Zh (My t r)/\Hd (My t r)
 |[],t,ht,_=>⟨rfl,ht⟩
 |u :: r,t,ht,hr=>by
  have hu:=hr u (List.mem_cons_self ..);rw [List.map_cons,List.foldl_cons,show Uo (Zh t) (Zh u)=Zh (.two ⟨5,0,0,0,0,0⟩ t u)from Qsv ht hu rfl rfl (Ik 5 (by omega)) rfl];exact Qya r _ (Qlp ht hu) (fun v hv=>hr v (List.mem_cons_of_mem _ hv))
theorem Qtb(l:List Tr)(hl:∀u∈l,Hd u):Qjj (l.map Zh)=Zh (Le l)/\Hd (Le l):=by
 cases l with
 |nil=>exact⟨by rw [List.map_nil,Qjj,Qgn,Qxh,Le,Xn (by rw [Sb];simp),Sb],Qem⟩
 |cons t r =>
  have ht:=hl t (List.mem_cons_self ..);rw [List.map_cons,Qjj,Qgn,Qre ht];exact Qya r t ht (fun v hv=>hl v (List.mem_cons_of_mem _ hv))
theorem Qdk {g:Int} {a:Tr}(ha:Hd a):Hi g (Zh a)=(Ls g a).map Zh/\∀u∈Ls g a,Hd u:=by
 have hi:∀i∈(List.range 4).filter (fun i=>Yi g i),i < 4:=fun i h=>List.mem_range.1 (List.mem_filter.1 h).1
 constructor
 ·unfold Hi Ls;rw [List.map_map];refine List.map_congr_left fun i h=> ?_
  exact Qky ha rfl rfl (Qvy (by omega) (by have:=hi i h;omega)) rfl
 intro u hu;obtain⟨i,h,rfl⟩:=List.mem_map.1 hu;exact Qq2 (by omega) (by have:=hi i h;omega) ha
def Po(op:Int):Prop:=(1<=op/\op<=11)\/op=13
theorem Eb {n:Nd}(h:Zp n)(hk:n.op=1\/n.op=2\/n.op=4\/n.op=5\/n.op=6\/n.op=7\/n.op=8):n.head=⟨n.op,0,0,0,0,0⟩:=by
 obtain⟨op,i,e,g,x,y⟩:=n;obtain⟨_,h2,_,h4,h5⟩:=h;unfold Ji at h2;simp only at hk;rcases hk with rfl|rfl|rfl|rfl|rfl|rfl|rfl <;>(simp [Zm,Zz,Zn,Zg]at h2;obtain⟨⟨a,b⟩,c⟩:=h2;simp [Qe,Qh]at h4 h5;simp [Nd.head,Nd.with_,Qe,Qh,a,b,c];try first|exact⟨h4,h5⟩|exact h5)
theorem Qrx {n:Nd}(h:Zp n)(hk:n.op=3\/n.op=9):n.head=⟨n.op,n.i,0,0,0,0⟩:=by
 obtain⟨op,i,e,g,x,y⟩:=n;obtain⟨_,h2,_,h4,h5⟩:=h;unfold Ji at h2;simp only at hk;rcases hk with rfl|rfl <;>(simp [Zm,Zz,Zn,Zg]at h2;obtain⟨b,c⟩:=h2;simp [Qe,Qh]at h4 h5;simp [Nd.head,Nd.with_,Qe,Qh,b,c];try first|exact⟨h4,h5⟩|exact h5)
theorem Zzq {n:Nd}(h:Zp n)(hk:n.op=13):n.head=⟨n.op,0,0,n.g,0,0⟩:=by
 obtain⟨op,i,e,g,x,y⟩:=n;obtain⟨_,h2,_,h4,h5⟩:=h;unfold Ji at h2;simp only at hk;subst hk;simp [Zm,Zz,Zn,Zg]at h2;obtain⟨a,b⟩:=h2;simp [Nd.head,Nd.with_,Qe,Qh,a,b]
theorem Qg1 {n:Nd}(h:Zp n)(hk:n.op=9\/n.op=10):0<=n.i/\n.i < 4:=by
 obtain⟨_,_,h3,_,_⟩:=h;unfold Yb at h3;rcases hk with ho|ho <;>(rw [ho]at h3;simp [Jy,Zm,Zz,Zn,Zg]at h3;omega)
theorem Zp.head {n:Nd}(h:Zp n):Zp n.head:=h.with_ 0 0
theorem Cp {n:Nd}(h1:Qe n.op=false)(h2:Qh n.op=false):n.head=n:=Qxi h1 h2 0 0
theorem Qr3 {n:Nd} {a b:Tr}(hn:Zp n)(ho:Po n.op)(ha:Qe n.op=true->Hd a)(hb:Qh n.op=true->Hd b):Jd n (Zh a) (Zh b)=Zh (Dz n a b)/\Hd (Dz n a b):=by
 have hop:n.op=1\/n.op=2\/n.op=3\/n.op=4\/n.op=5\/n.op=6\/n.op=7\/n.op=8\/n.op=9\/n.op=10\/n.op=11\/n.op=13:=by unfold Po at ho;omega
 have leafc:∀m:Nd,Zh (.leaf m)= [m]:=fun m=>by rw [Xn (by rw [Sb];simp),Sb]
 have hX:∀{k:Int},n.op=k->Qe k=true->Qe n.op=true:=fun h k=>by rw [h];exact k
 have hY:∀{k:Int},n.op=k->Qh k=true->Qh n.op=true:=fun h k=>by rw [h];exact k
 have nX:∀{k:Int},n.op=k->Qe k=false->Qe n.op=false:=fun h k=>by rw [h];exact k
 have nY:∀{k:Int},n.op=k->Qh k=false->Qh n.op=false:=fun h k=>by rw [h];exact k
 have m0:∀{k:Int},n.op=k->Qe k=false->Qh k=false->k≠10->k≠11->Dz n a b=.leaf n:=fun h h1 h2 h3 h4=>by
  unfold Dz Yh;rw [if_neg (by omega),if_neg (by omega),nX h h1,nY h h2];rfl
 have m1:∀{k:Int},n.op=k->Qe k=true->Qh k=false->k≠10->k≠11->Dz n a b=.one n.head a:=fun h h1 h2 h3 h4=>by
  unfold Dz Yh;rw [if_neg (by omega),if_neg (by omega),hX h h1,nY h h2];rfl
 have m2:∀{k:Int},n.op=k->Qh k=true->k≠10->k≠11->Dz n a b=.two n.head a b:=fun h h2 h3 h4=>by
  unfold Dz Yh;rw [if_neg (by omega),if_neg (by omega),hY h h2];rfl
 have two:∀{m:Nd},n.head=m->Qe m.op=true->Qh m.op=true->Hd a->Hd b->Yp m [Zh a,Zh b]=Zh (.two n.head a b)/\Hd (.two n.head a b):=fun {m} e h1 h2 h3 h4=>by
  subst e;exact⟨Qsv h3 h4 h1 h2 hn.head (Rd n),h3.two h1 h2 hn.head (Rd n) h4⟩
 have one:∀{m:Nd},n.head=m->Qe m.op=true->Qh m.op=false->Hd a->Yp m [Zh a]=Zh (.one n.head a)/\Hd (.one n.head a):=fun {m} e h1 h2 h3=>by
  subst e;exact⟨Qky h3 h1 h2 hn.head (Rd n),h3.one h1 h2 hn.head (Rd n)⟩
 have leaf:∀{k:Int},n.op=k->Qe k=false->Qh k=false->Hd (.leaf n):=fun h h1 h2=>⟨⟨nX h h1,nY h h2⟩,hn⟩
 rcases hop with h|h|h|h|h|h|h|h|h|h|h|h
 ·rw [m0 h rfl rfl (by omega) (by omega),leafc];refine⟨?_,leaf h rfl rfl⟩;have e:=Eb hn (by omega);rw [Cp (nX h rfl) (nY h rfl),h]at e;simp only [Jd,h];exact Qxh.trans (by rw [<-e])
 ·rw [m0 h rfl rfl (by omega) (by omega),leafc];refine⟨?_,leaf h rfl rfl⟩;have e:=Eb hn (by omega);rw [Cp (nX h rfl) (nY h rfl),h]at e;simp only [Jd,h];exact Qr5.trans (by rw [<-e])
 ·rw [m0 h rfl rfl (by omega) (by omega),leafc];refine⟨?_,leaf h rfl rfl⟩;have e:=Qrx hn (by omega);rw [Cp (nX h rfl) (nY h rfl),h]at e;simp only [Jd,h];refine((En rfl rfl (Zzm hn h)).2).trans ?_;rw [<-e]
 ·rw [m1 h rfl rfl (by omega) (by omega)];have e:=Eb hn (by omega);rw [h]at e;have:=one e rfl rfl (ha (hX h rfl));simp only [Jd,h];exact this
 ·rw [m2 h rfl (by omega) (by omega)];have e:=Eb hn (by omega);rw [h]at e;have:=two e rfl rfl (ha (hX h rfl)) (hb (hY h rfl));simp only [Jd,h];exact this
 ·rw [m2 h rfl (by omega) (by omega)];have e:=Eb hn (by omega);rw [h]at e;have:=two e rfl rfl (ha (hX h rfl)) (hb (hY h rfl));simp only [Jd,h];exact this
 ·rw [m2 h rfl (by omega) (by omega)];have e:=Eb hn (by omega);rw [h]at e;have:=two e rfl rfl (ha (hX h rfl)) (hb (hY h rfl));simp only [Jd,h];exact this
 ·rw [m2 h rfl (by omega) (by omega)];have e:=Eb hn (by omega);rw [h]at e;have:=two e rfl rfl (ha (hX h rfl)) (hb (hY h rfl));simp only [Jd,h];exact this
 ·rw [m1 h rfl rfl (by omega) (by omega)];have e:=Qrx hn (by omega);rw [h]at e;have:=one e rfl rfl (ha (hX h rfl));simp only [Jd,h];exact this
 ·have hA:=ha (hX h rfl);have hi:=Qg1 hn (.inr h);have e1:Jj (Zh a)=Zh (.one ⟨4,0,0,0,0,0⟩ a):=Qky hA rfl rfl Qfm rfl;have e2:Gj n.i (Zh (.one ⟨4,0,0,0,0,0⟩ a))=Zh (.one ⟨9,n.i,0,0,0,0⟩ (.one ⟨4,0,0,0,0,0⟩ a)):=Qky (Qvj hA) rfl rfl (Qvy hi.1 hi.2) rfl;have e3:Jj (Zh (.one ⟨9,n.i,0,0,0,0⟩ (.one ⟨4,0,0,0,0,0⟩ a)))=Zh (.one ⟨4,0,0,0,0,0⟩ (.one ⟨9,n.i,0,0,0,0⟩ (.one ⟨4,0,0,0,0,0⟩ a))):=Qky (Qq2 hi.1 hi.2 (Qvj hA)) rfl rfl Qfm rfl;have em:Dz n a b=.one ⟨4,0,0,0,0,0⟩ (.one ⟨9,n.i,0,0,0,0⟩ (.one ⟨4,0,0,0,0,0⟩ a)):=by unfold Dz;rw [if_pos h]
  rw [em];refine⟨?_,Qvj (Qq2 hi.1 hi.2 (Qvj hA))⟩;simp only [Jd,h];show Jj (Gj n.i (Jj (Zh a)))=_;rw [e1,e2,e3]
 ·have hA:=ha (hX h rfl);have em:Dz n a b=Le (Ls n.g a):=by unfold Dz;rw [if_neg (by omega),if_pos h]
  rw [em];obtain⟨e1,e2⟩:=Qdk (g:=n.g) hA;obtain⟨e3,e4⟩:=Qtb _ e2;refine⟨?_,e4⟩;simp only [Jd,h];show Qjj (Hi n.g (Zh a))=_;rw [e1,e3]
 rw [m2 h rfl (by omega) (by omega)];have e:=Zzq hn h;rw [h]at e;have:=two e rfl rfl (ha (hX h rfl)) (hb (hY h rfl));simp only [Jd,h];exact this
def Tz(n:Nd):Prop:=(1<=n.op/\n.op<=9)\/n.op=13
def Xp(t:Tr):Prop:=Hd t/\t.all Tz
theorem Qno {op:Int}(h1:Qe op=true)(h2:Qh op=false)(h:(1<=op/\op<=9)\/op=13):op=4\/op=9:=by
 have:op=1\/op=2\/op=3\/op=4\/op=5\/op=6\/op=7\/op=8\/op=9\/op=13:=by omega
 rcases this with rfl|rfl|rfl|rfl|rfl|rfl|rfl|rfl|rfl|rfl <;> first|(cases h1;done)|(cases h2;done)|omega
theorem Qni {op:Int}(h2:Qh op=true)(h:(1<=op/\op<=9)\/op=13):(5<=op/\op<=8)\/op=13:=by
 have:op=1\/op=2\/op=3\/op=4\/op=5\/op=6\/op=7\/op=8\/op=9\/op=13:=by omega
 rcases this with rfl|rfl|rfl|rfl|rfl|rfl|rfl|rfl|rfl|rfl <;> first|(cases h2;done)|omega
theorem Xp.lang:∀{t:Tr},Xp t->lang t
 |.leaf _,_=>trivial
 |.one _n a,h=>⟨Qno h.1.1.1 h.1.1.2.1 h.2.1,Xp.lang (t:=a) ⟨⟨h.1.1.2.2.2,h.1.2.2⟩,h.2.2⟩⟩
 |.two _n a b,h=>⟨Qni h.1.1.2.1 h.2.1,Xp.lang (t:=a) ⟨⟨h.1.1.2.2.2.1,h.1.2.2.1⟩,h.2.2.1⟩,Xp.lang (t:=b) ⟨⟨h.1.1.2.2.2.2,h.1.2.2.2⟩,h.2.2.2⟩⟩
theorem Xp.fact:∀{t:Tr},Xp t->Aj t
 |.leaf n,h=>fun ho=>by
  have e:=Qrx h.1.2 (.inl ho);rw [Cp h.1.1.1 h.1.1.2,ho]at e;exact e
 |.one n a,h=>Xp.fact (t:=a) ⟨⟨h.1.1.2.2.2,h.1.2.2⟩,h.2.2⟩
 |.two n a b,h=>⟨Xp.fact (t:=a) ⟨⟨h.1.1.2.2.2.1,h.1.2.2.1⟩,h.2.2.1⟩,Xp.fact (t:=b) ⟨⟨h.1.1.2.2.2.2,h.1.2.2.2⟩,h.2.2.2⟩⟩
theorem Xp.of_one {n:Nd} {a:Tr}(h:Xp (.one n a)):Xp a:=⟨⟨h.1.1.2.2.2,h.1.2.2⟩,h.2.2⟩
theorem Xp.of_two {n:Nd} {a b:Tr}(h:Xp (.two n a b)):Xp a/\Xp b:=⟨⟨⟨h.1.1.2.2.2.1,h.1.2.2.1⟩,h.2.2.1⟩,⟨h.1.1.2.2.2.2,h.1.2.2.2⟩,h.2.2.2⟩
theorem Xp.know {i:Int}(h0:0<=i)(h1:i < 4) {s:Tr}(hs:Xp s):Xp (.one ⟨9,i,0,0,0,0⟩ s):=⟨Qq2 h0 h1 hs.1,.inl ⟨show(1:Int)<=9 by decide,show(9:Int)<=9 by decide⟩,hs.2⟩
theorem Xp.and {s t:Tr}(hs:Xp s)(ht:Xp t):Xp (.two ⟨5,0,0,0,0,0⟩ s t):=⟨Qlp hs.1 ht.1,.inl ⟨by decide,by decide⟩,hs.2,ht.2⟩
theorem Xp.imp {s t:Tr}(hs:Xp s)(ht:Xp t):Xp (.two ⟨7,0,0,0,0,0⟩ s t):=⟨Qit hs.1 ht.1,.inl ⟨by decide,by decide⟩,hs.2,ht.2⟩
theorem Xp.unf {i:Nat}(hi:i < 4) {n:Nd} {a b:Tr}(h:Xp (.two n a b)):Xp (Xh i n a b):=
 Xp.know (by omega) (by omega) (Xp.imp h.of_two.1 (Xp.and h.of_two.2 h))
theorem Xp.at {t:Tr}(h:Xp t) {i:Nat}(hi:i < (Qn t).length):Xp (tr (Qn t) i):=
 ⟨⟨Qgl h.1.wf _ hi,Pw (fun _ k1 k2 h=>h.with_ k1 k2) h.1.wf (Rs (fun _ k1 k2 h=>h.with_ k1 k2) t [] h.1.2 (fun n hn=>by cases hn)) _ hi⟩,
   Pw (P:=Tz) (fun _ _ _ k=>k) h.1.wf (Rs (P:=Tz) (fun _ _ _ k=>k) t [] h.2 (fun n hn=>by cases hn)) _ hi⟩
structure Xf (t:Tr):Prop where
 xp:Xp t
 len:(Qn t).length<=200
section
variable {t:Tr}
theorem Xf.check(h:Xf t):check (Qn t)=0:=h.xp.1.check h.len
theorem Xf.tree(h:Xf t):Qp (Qn t)=t:=Vc h.xp.1.1
theorem Xf.at(h:Xf t) {i:Nat}(hi:i < (Qn t).length):Xf (tr (Qn t) i):=⟨h.xp.at hi,Qx (Wp h.xp.1.1 hi) h.len⟩
theorem Xf.of_one {n:Nd} {a:Tr}(h:Xf (.one n a)):Xf a:=⟨h.xp.of_one,Qx (Qnw h.xp.1.1) h.len⟩
theorem Xf.of_two {n:Nd} {a b:Tr}(h:Xf (.two n a b)):Xf a/\Xf b:=⟨⟨h.xp.of_two.1,Qx (Qkm h.xp.1.1).1 h.len⟩,⟨h.xp.of_two.2,Qx (Qkm h.xp.1.1).2 h.len⟩⟩
theorem Xf.short(h:Xf t):Zh t=Qn t:=Xn h.len
theorem Xf.inj {s:Tr}(hs:Xf s)(h:Xf t)(e:Qn s=Qn t):s=t:=Qte hs.xp.1.1 h.xp.1.1 e
theorem Xf.last(h:Xf t):(Qo (Qn t)).op=t.top.op:=by rw [Qeh h.check,h.tree]
theorem Xf.base(h:Xf t):Js (Qo (Qn t))=Js t.top:=by unfold Js;rw [h.last]
theorem Xf.unf {n:Nd} {a b:Tr}(h:Xf (.two n a b)) {i:Nat}(hi:i < 4):Gi i (Qn (.two n a b))=Zh (Xh i n a b):=by
 obtain⟨_,_,e1,e2⟩:=Nh h.check h.tree;have hb:=h.of_two.2;have ha:=h.of_two.1;unfold Gi Xh;rw [e1,e2,<-ha.short,<-hb.short,<-h.short];have h1:Uo (Zh b) (Zh (.two n a b))=Zh (.two ⟨5,0,0,0,0,0⟩ b (.two n a b)):=Qsv hb.xp.1 h.xp.1 rfl rfl (Ik 5 (by omega)) rfl;have h2:Qje (Zh a) (Zh (.two ⟨5,0,0,0,0,0⟩ b (.two n a b)))=Zh (.two ⟨7,0,0,0,0,0⟩ a (.two ⟨5,0,0,0,0,0⟩ b (.two n a b))):=Qsv ha.xp.1 (hb.xp.and h.xp).1 rfl rfl (Ik 7 (by omega)) rfl;have h3:Gj (i:Int) (Zh (.two ⟨7,0,0,0,0,0⟩ a (.two ⟨5,0,0,0,0,0⟩ b (.two n a b))))=Zh (.one ⟨9,(i:Int),0,0,0,0⟩ (.two ⟨7,0,0,0,0,0⟩ a (.two ⟨5,0,0,0,0,0⟩ b (.two n a b)))):=Qky (ha.xp.imp (hb.xp.and h.xp)).1 rfl rfl (Qvy (by omega) (by omega)) rfl
 rw [h1,h2,h3]
theorem Xf.subs(h:Xf t):Qzv (Qn t)=(List.range (Qn t).length).map fun i=>Qn (tr (Qn t) i):=by
 unfold Qzv Dj;rw [Qra h.xp.1 h.len];exact List.map_congr_left fun i hi=>Dm h.check (List.mem_range.1 hi)
theorem Xf.mem_base0(h:Xf t) {c:List Nd} :c∈Yg (Qn t)↔∃i,i < (Qn t).length/\c=Qn (tr (Qn t) i)/\Js (tr (Qn t) i).top=true:=by
 unfold Yg;rw [h.subs,List.mem_filter,List.mem_map];constructor
 ·rintro⟨⟨i,hi,rfl⟩,hb⟩;have hi:=List.mem_range.1 hi;exact⟨i,hi,rfl,by rw [<-(h.at hi).base];exact hb⟩
 rintro⟨i,hi,rfl,hb⟩;exact⟨⟨i,List.mem_range.2 hi,rfl⟩,by rw [(h.at hi).base];exact hb⟩
theorem Xf.base0_nodup(h:Xf t):(Yg (Qn t)).Nodup:=by
 unfold Yg;rw [h.subs];refine List.Pairwise.filter _ ?_;rw [List.pairwise_map];refine List.Pairwise.imp_of_mem ?_ (List.nodup_iff_pairwise_ne.1 List.nodup_range);intro i j hi hj hne e;have hi:=List.mem_range.1 hi;have hj:=List.mem_range.1 hj;exact hne (Qta h.xp.1.1 i j hi hj ((h.at hi).inj (h.at hj) e))
end
theorem Qxg {l:List (List Nd)} {g:List Nd} :Yx l g < 0↔g∉l:=by
 unfold Yx;cases h:l.findIdx? fun f=>decide (f=g)with
 |none =>
  rw [List.findIdx?_eq_none_iff]at h;refine⟨fun _ hm=> ?_,fun _=>by decide⟩;have:=h g hm;simp at this
 |some j =>
  obtain⟨hj,he,_⟩:=List.findIdx?_eq_some_iff_getElem.1 h;refine⟨fun hn=> ?_,fun hn=> ?_⟩
  ·simp only at hn;omega
  have e:l[j]=g:=by simpa using he
  exact absurd (e▸List.getElem_mem hj) hn
theorem Xb {l:List (List Nd)}(hl:l.Nodup) {i:Nat} {g:List Nd}(hi:l[i]?=some g):Yx l g=i:=by
 obtain⟨hil,he⟩:=List.getElem?_eq_some_iff.1 hi;unfold Yx;have:l.findIdx? (fun f=>decide (f=g))=some i:=by
  rw [List.findIdx?_eq_some_iff_getElem];refine⟨hil,by simpa using he,fun j hj=> ?_⟩;have hne:l[j]≠l[i]:=fun e=>by
   have:=(List.nodup_iff_pairwise_ne.1 hl);rw [List.pairwise_iff_getElem]at this;exact this j i (by omega) hil hj e
  rw [he]at hne
  simpa using hne
 rw [this]
theorem Qpm {l:List (List Nd)} {g c:List Nd} :c∈Xt l g↔c∈l\/c=g:=by
 unfold Xt;cases h:decide (Yx l g < 0)
 ·rw [decide_eq_false_iff_not,Qxg,Classical.not_not]at h;exact⟨.inl,fun k=>k.elim id fun e=>e▸h⟩
 simp
theorem Qry {l:List (List Nd)} {g:List Nd}(h:l.Nodup):(Xt l g).Nodup:=by
 unfold Xt;cases k:decide (Yx l g < 0)
 ·exact h
 rw [decide_eq_true_iff,Qxg]at k;rw [cond_true,List.nodup_append];exact⟨h,by simp,fun a ha b hb e=>k (by rw [List.mem_singleton.1 hb]at e;exact e▸ha)⟩
theorem Ew:∀(us:List (List Nd)) (l:List (List Nd)) (c:List Nd),c∈us.foldl Xt l↔c∈l\/c∈us
 |[],l,c=>by simp
 |u :: r,l,c=>by
  rw [List.foldl_cons,Ew r,Qpm,List.mem_cons];exact or_assoc
theorem Eo:∀(us:List (List Nd)) (l:List (List Nd)),l.Nodup->(us.foldl Xt l).Nodup
 |[],_,h=>h
 |_ :: r,_,h=>Eo r _ (Qry h)
structure Ri (l:List (List Nd)) (t:Tr):Prop where
 can:∀c∈l,∃s,Xf s/\c=Qn s/\Js s.top=true
 nodup:l.Nodup
 closed:Ha (l.map Qp)
 cov:cov (l.map Qp) t
 len:l.length<=12
theorem Yw {l:List (List Nd)}(hl:∀c∈l,∃s,Xf s/\c=Qn s/\Js s.top=true) {s:Tr} :s∈l.map Qp↔Xf s/\Qn s∈l:=by
 rw [List.mem_map];constructor
 ·rintro⟨c,hc,rfl⟩;obtain⟨u,hu,rfl,_⟩:=hl c hc;rw [hu.tree];exact⟨hu,hc⟩
 rintro⟨h1,h2⟩;exact⟨_,h2,h1.tree⟩
theorem Oj {n:Nd} {a b:Tr}(h:Xf (.two n a b))(ho:n.op=13) {c:List Nd} :c∈Vv (Qn (.two n a b))↔∃i,i < 4/\Yi n.g i=true/\c=Zh (Xh i n a b):=by
 obtain⟨e1,e2,_,_⟩:=Nh h.check h.tree;unfold Vv;rw [e1,ho,e2];simp only [beq_self_eq_true,cond_true,List.mem_map,List.mem_filter,List.mem_range];constructor
 ·rintro⟨i,⟨h1,h2⟩,rfl⟩;exact⟨i,h1,h2,h.unf h1⟩
 rintro⟨i,h1,h2,rfl⟩;exact⟨i,⟨h1,h2⟩,h.unf h1⟩
theorem Ma {s:Tr}(h:Xf s)(ho:s.top.op≠13):Vv (Qn s)= []:=by
 unfold Vv;rw [h.last];have:(s.top.op==13)=false:=by simpa using ho
 rw [this];rfl
theorem Ek {s:Tr}(h:Xf s)(ho:s.top.op=13):∃n a b,s=.two n a b/\n.op=13:=by
 cases s with
 |leaf n=>have:=h.xp.1.1.2;rw [show n.op=13 from ho]at this;cases this
 |one n a=>have:=h.xp.1.1.2.1;rw [show n.op=13 from ho]at this;cases this
 |two n a b=>exact⟨n,a,b,rfl,ho⟩
theorem Qnq {t:Tr}(h:Xf t)(he:(Vp (Qn t)).2=0):Ri (Vp (Qn t)).1 t:=by
 unfold Vp at he⊢;cases hc:((Yg (Qn t)).flatMap Vv).any (fun u=>decide (u.length=0))||decide (12 < (((Yg (Qn t)).flatMap Vv).foldl Xt (Yg (Qn t))).length)
 case true=>rw [hc]at he;cases he
 rw [cond_false];rw [Bool.or_eq_false_iff]at hc;obtain⟨hc1,hc2⟩:=hc;generalize hl:((Yg (Qn t)).flatMap Vv).foldl Xt (Yg (Qn t))=l at hc2;have hmem:∀c,c∈l↔c∈Yg (Qn t)\/c∈(Yg (Qn t)).flatMap Vv:=fun c=>by rw [<-hl];exact Ew _ _ _
 have hne:∀u∈(Yg (Qn t)).flatMap Vv,u.length≠0:=fun u hu=>by
  have:=List.any_eq_false.1 hc1 u hu
  simpa using this
 have hun:∀u∈(Yg (Qn t)).flatMap Vv,∃i n a b k,k < (Qn t).length/\tr (Qn t) k=.two n a b/\Xf (.two n a b)/\n.op=13/\i < 4/\Yi n.g i=true/\Xf (Xh i n a b)/\u=Qn (Xh i n a b):=fun u hu=>by
  obtain⟨c,hcb,huc⟩:=List.mem_flatMap.1 hu;obtain⟨k,hk,rfl,_⟩:=h.mem_base0.1 hcb;have hx:=h.at hk;by_cases ho:(tr (Qn t) k).top.op=13
  ·obtain⟨n,a,b,e,ho'⟩:=Ek hx ho;rw [e]at hx huc;obtain⟨i,hi,hg,rfl⟩:=(Oj hx ho').1 huc;have hl0:=hne _ hu;have hlen:(Qn (Xh i n a b)).length<=200:=by
    by_cases e2:(Qn (Xh i n a b)).length<=200
    ·exact e2
    rw [Kp (by omega)]at hl0;simp at hl0
   exact⟨i,n,a,b,k,hk,e,hx,ho',hi,hg,⟨hx.xp.unf hi,hlen⟩,Xn hlen⟩
  rw [Ma hx ho]at huc;cases huc
 have hcan:∀c∈l,∃s,Xf s/\c=Qn s/\Js s.top=true:=fun c hc=>by
  rcases(hmem c).1 hc with h1|h1
  ·obtain⟨k,hk,rfl,hb⟩:=h.mem_base0.1 h1;exact⟨_,h.at hk,rfl,hb⟩
  obtain⟨i,n,a,b,_,_,_,_,_,_,_,hX,rfl⟩:=hun c h1;exact⟨_,hX,rfl,rfl⟩
 have hsub:∀k,k < (Qn t).length->Js (tr (Qn t) k).top=true->tr (Qn t) k∈l.map Qp:=fun k hk hb =>
  (Yw hcan).2 ⟨h.at hk,(hmem _).2 (.inl (h.mem_base0.2 ⟨k,hk,rfl,hb⟩))⟩
 have hcov:∀k,k < (Qn t).length->cov (l.map Qp) (tr (Qn t) k):=by
  intro k
  induction k using Nat.strongRecOn with
  |_ k ih =>
   intro hk;obtain⟨n,hn⟩:∃n,(Qn t)[k]?=some n:=⟨_,Qv hk⟩;obtain⟨hx,hy⟩:=h.xp.1.wf k n hn;have hs:=hsub k hk;rw [Xv h.xp.1.wf hn]at hs⊢;unfold Yh at hs⊢;cases h2:Qh n.op
   ·cases h1:Qe n.op
    ·rw [h1,h2]at hs;exact fun h3=>hs (by simp [Js,Tr.top,h3])
    rw [h1,h2]at hs;have:=hx h1;simp only [cond_false,cond_true,_root_.Go.Proofs.YtkmclcmnoicagaaGreatDoor.cov]at hs⊢;by_cases h9:n.head.op=9
    ·rw [if_pos h9];exact hs (by simp [Js,Tr.top,h9])
    rw [if_neg h9];exact ih _ (by omega) (by omega)
   rw [h2]at hs;have:=hx (Vs h2);have:=hy h2;simp only [cond_true,_root_.Go.Proofs.YtkmclcmnoicagaaGreatDoor.cov]at hs⊢;by_cases h13:n.head.op=13
   ·rw [if_pos h13];exact hs (by simp [Js,Tr.top,h13])
   rw [if_neg h13];exact⟨ih _ (by omega) (by omega),ih _ (by omega) (by omega)⟩
 have hpart:∀k,k < (Qn t).length->∀n a b,tr (Qn t) k=.two n a b->cov (l.map Qp) a/\cov (l.map Qp) b:=fun k hk n a b e=>by
  obtain⟨m,hm⟩:∃m,(Qn t)[k]?=some m:=⟨_,Qv hk⟩;obtain⟨hx,hy⟩:=h.xp.1.wf k m hm;rw [Xv h.xp.1.wf hm]at e;obtain⟨h2,_,rfl,rfl⟩:=Qmk e;have:=hx (Vs h2);have:=hy h2;exact⟨hcov _ (by omega),hcov _ (by omega)⟩
 have hpart1:∀k,k < (Qn t).length->∀n a,tr (Qn t) k=.one n a->cov (l.map Qp) a:=fun k hk n a e=>by
  obtain⟨m,hm⟩:∃m,(Qn t)[k]?=some m:=⟨_,Qv hk⟩;obtain⟨hx,hy⟩:=h.xp.1.wf k m hm;rw [Xv h.xp.1.wf hm]at e;obtain⟨h1,_,_,rfl⟩:=Qmv e;have:=hx h1;exact hcov _ (by omega)
 refine⟨hcan,by rw [<-hl];exact Eo _ _ h.base0_nodup,⟨fun n a hm=> ?_,fun n a b hm=> ?_⟩,?_,by have:=of_decide_eq_false hc2;show l.length<=12;omega⟩
 ·obtain⟨hX,hm'⟩:=(Yw hcan).1 hm;have hop:n.op=9:=by
   obtain⟨s,hs,e,hb⟩:=hcan _ hm';have h4:=Qno hX.xp.1.1.1 hX.xp.1.1.2.1 hX.xp.2.1;rw [<-hX.inj hs e]at hb;simp only [Js,Tr.top,Bool.or_eq_true,beq_iff_eq]at hb;omega
  refine⟨hop,?_,hX.of_one.xp.lang,Qg1 hX.xp.1.2.1 (.inl hop)⟩;rcases(hmem _).1 hm' with h1|h1
  ·obtain⟨k,hk,e,_⟩:=h.mem_base0.1 h1;exact hpart1 k hk n a ((hX.inj (h.at hk) e).symm)
  obtain⟨i,n',a',b',k,hk,e,hX',ho,hi,hg,hU,eu⟩:=hun _ h1;have:=hX.inj hU eu;unfold Xh at this;injection this with _ e2;subst e2;obtain⟨c1,c2⟩:=hpart k hk _ _ _ e;have hm2:=hsub k hk (by rw [e];simp [Js,Tr.top,ho]);rw [e]at hm2;simp only [_root_.Go.Proofs.YtkmclcmnoicagaaGreatDoor.cov,show ¬(7:Int)=13 by decide,show ¬(5:Int)=13 by decide,if_false,ho,if_true];exact⟨c1,c2,hm2⟩
 ·obtain⟨hX,hm'⟩:=(Yw hcan).1 hm;rcases(hmem _).1 hm' with h1|h1
  ·obtain⟨k,hk,e,hb⟩:=h.mem_base0.1 h1;have et:=hX.inj (h.at hk) e;have hop:n.op=13:=by
    have h5:=Qni hX.xp.1.1.2.1 hX.xp.2.1;rw [<-et]at hb;simp only [Js,Tr.top,Bool.or_eq_true,beq_iff_eq]at hb;omega
   obtain⟨c1,c2⟩:=hpart k hk n a b et.symm;refine⟨hop,c1,c2,hX.of_two.1.xp.lang,hX.of_two.2.xp.lang,fun i hi hg=> ?_⟩;have hu:Zh (Xh i n a b)∈(Yg (Qn t)).flatMap Vv:=List.mem_flatMap.2 ⟨_,h1,(Oj hX hop).2 ⟨i,hi,hg,rfl⟩⟩;have hl0:=hne _ hu;have hlen:(Qn (Xh i n a b)).length<=200:=by
    by_cases e2:(Qn (Xh i n a b)).length<=200
    ·exact e2
    rw [Kp (by omega)]at hl0;simp at hl0
   refine(Yw hcan).2 ⟨⟨hX.xp.unf hi,hlen⟩,(hmem _).2 (.inr ?_)⟩;rw [<-Xn hlen];exact hu
  obtain⟨i,n',a',b',k,hk,e,hX',ho,hi,hg,hU,eu⟩:=hun _ h1;have:=hX.inj hU eu;unfold Xh at this;cases this
 have hp:=Gr h.xp.1.1;have:=hcov ((Qn t).length - 1) (by omega);rw [show tr (Qn t) ((Qn t).length - 1)=t from h.tree]at this;exact this
section
variable {t:Tr}
theorem Qh0(h:Xf t) {u:List Nd}(hu:u∈(Yg (Qn t)).flatMap Vv)(hl0:u.length≠0):
 ∃i n a b,Xf (.two n a b)/\n.op=13/\i < 4/\Xf (Xh i n a b)/\u=Qn (Xh i n a b):=by
 obtain⟨c,hcb,huc⟩:=List.mem_flatMap.1 hu;obtain⟨k,hk,rfl,_⟩:=h.mem_base0.1 hcb;have hx:=h.at hk;by_cases ho:(tr (Qn t) k).top.op=13
 ·obtain⟨n,a,b,e,ho'⟩:=Ek hx ho;rw [e]at hx huc;obtain⟨i,hi,hg,rfl⟩:=(Oj hx ho').1 huc;have hlen:(Qn (Xh i n a b)).length<=200:=by
   by_cases e2:(Qn (Xh i n a b)).length<=200
   ·exact e2
   rw [Kp (by omega)]at hl0;simp at hl0
  exact⟨i,n,a,b,hx,ho',hi,⟨hx.xp.unf hi,hlen⟩,Xn hlen⟩
 rw [Ma hx ho]at huc;cases huc
def usK(l0:List (List Nd))(k:Nat):List (List Nd):=(l0.take k).flatMap Vv
theorem Qrq {l0:List (List Nd)} {k:Nat} {u:List Nd}(h:u∈usK l0 k):u∈l0.flatMap Vv:=by
 obtain⟨c,hc,hu⟩:=List.mem_flatMap.1 h;exact List.mem_flatMap.2 ⟨c,List.mem_of_mem_take hc,hu⟩
theorem Nj:∀(us l:List (List Nd)),l <+: us.foldl Xt l
 |[],l=>List.prefix_refl _
 |u :: r,l=>by
  rw [List.foldl_cons];refine List.IsPrefix.trans ?_ (Nj r _);unfold Xt;cases decide (Yx l u < 0)
  ·exact List.prefix_refl _
  exact List.prefix_append _ _
theorem Qfs(us l:List (List Nd)):l.length<=(us.foldl Xt l).length:=(Nj us l).length_le
theorem Qtl(h:Xf t) {k:Nat} {ol:List (List Nd)} {c:List Nd}(hol:ol=(usK (Yg (Qn t)) k).foldl Xt (Yg (Qn t)))(hne:∀u∈usK (Yg (Qn t)) k,u.length≠0)(hc:ol[k]?=some c):
 usK (Yg (Qn t)) (k+1)=usK (Yg (Qn t)) k++Vv c/\∃s,Xf s/\c=Qn s:=by
 generalize hl0:Yg (Qn t)=l0 at hol hne⊢;by_cases hk:k < l0.length
 ·have hp:l0 <+: ol:=hol▸Nj _ _;have hc0:l0[k]?=some c:=by
   obtain⟨r,rfl⟩:=hp;rw [List.getElem?_append_left hk]at hc;exact hc
  refine⟨?_,?_⟩
  ·unfold usK;obtain⟨hk',e⟩:=List.getElem?_eq_some_iff.1 hc0;rw [List.take_succ_eq_append_getElem hk',e,List.flatMap_append];simp
  have hm:c∈Yg (Qn t):=hl0▸List.mem_of_getElem? hc0;obtain⟨i,hi,rfl,_⟩:=h.mem_base0.1 hm;exact⟨_,h.at hi,rfl⟩
 have e:usK l0 (k+1)=usK l0 k:=by
  unfold usK;rw [List.take_of_length_le (by omega),List.take_of_length_le (by omega)]
 have hm:c∈ol:=List.mem_of_getElem? hc;rw [hol,Ew]at hm;rcases hm with hm|hm
 ·have hm':c∈Yg (Qn t):=hl0▸hm;obtain⟨i,hi,rfl,hb⟩:=h.mem_base0.1 hm';have hgt:(ol.drop l0.length)[k - l0.length]?=some (Qn (tr (Qn t) i)):=by rw [List.getElem?_drop];rw [<-hc];congr 1;omega
  have hnd:ol.Nodup:=by rw [hol,<-hl0];exact Eo _ _ h.base0_nodup
  have hp:l0 <+: ol:=hol▸Nj _ _;obtain⟨r,hr⟩:=hp;rw [<-hr]at hgt hnd;rw [List.drop_left]at hgt;have:=(List.nodup_append.1 hnd).2.2 _ hm _ (List.mem_of_getElem? hgt);exact absurd rfl this
 have hu:=hne c hm;obtain⟨i,n,a,b,_,_,_,hX,rfl⟩:=Qh0 h (hl0▸Qrq hm) hu;exact⟨by rw [e,Ma hX (by show(9:Int)≠13;decide),List.append_nil],_,hX,rfl⟩
theorem Qoj {l0:List (List Nd)} {k:Nat}(h:l0.length<=k):usK l0 k=l0.flatMap Vv:=by
 unfold usK;rw [List.take_of_length_le h]
theorem Qpo {l0:List (List Nd)} {k:Nat} {u:List Nd}(h:u∈usK l0 k)(hl:u.length=0):(l0.flatMap Vv).any (fun u=>decide (u.length=0))=true:=by
 rw [List.any_eq_true];exact⟨u,Qrq h,by simp [hl]⟩
theorem Qtv(l0:List (List Nd))(k:Nat):∃r,l0.flatMap Vv=usK l0 k++r:=by
 refine⟨(l0.drop k).flatMap Vv,?_⟩;unfold usK;rw [<-List.flatMap_append,List.take_append_drop]
theorem Qtt {l0:List (List Nd)} {k:Nat}(h:12 < ((usK l0 k).foldl Xt l0).length):12 < ((l0.flatMap Vv).foldl Xt l0).length:=by
 obtain⟨r,e⟩:=Qtv l0 k;rw [e,List.foldl_append];exact Qy h (Qfs r _)
theorem Qye {g:List Nd}(h:((Yg g).flatMap Vv).any (fun u=>decide (u.length=0))=true\/12 < (((Yg g).flatMap Vv).foldl Xt (Yg g)).length):Vp g=([],8):=by
 unfold Vp;rcases h with h|h
 ·rw [h];rfl
 rw [decide_eq_true h,Bool.or_true];rfl
theorem Qb6 {g:List Nd}(h:∀u∈(Yg g).flatMap Vv,u.length≠0)(hl:(((Yg g).flatMap Vv).foldl Xt (Yg g)).length<=12):Vp g=(((Yg g).flatMap Vv).foldl Xt (Yg g),0):=by
 unfold Vp;have e:((Yg g).flatMap Vv).any (fun u=>decide (u.length=0))=false:=by
  rw [List.any_eq_false];intro u hu;simp [h u hu]
 rw [e,decide_eq_false (by omega)];rfl
end
def Na(c:List Nd)(q:Nat):List (List Nd):=bif (Qo c).op==13 then((List.range q).filter fun i=>Yi (Qo c).g i).map fun i=>Gi i c else []
theorem Qxe(c:List Nd):Na c 0= []:=by
 unfold Na;cases(Qo c).op==13 <;> rfl
theorem Qqf(c:List Nd):Na c 4=Vv c:=rfl
theorem Qw7 {c:List Nd} {q:Nat}(h:((Qo c).op==13&&Yi (Qo c).g q)=false):Na c (q+1)=Na c q:=by
 unfold Na;cases h1:(Qo c).op==13
 ·rfl
 rw [h1]at h;have h2:Yi (Qo c).g q=false:=h;simp only [cond_true];rw [List.range_succ,List.filter_append,List.map_append,List.filter_cons,h2];simp
theorem Qhi {c:List Nd} {q:Nat}(h1:((Qo c).op==13)=true)(h2:Yi (Qo c).g q=true):Na c (q+1)=Na c q++ [Gi q c]:=by
 unfold Na;rw [h1];simp only [cond_true];rw [List.range_succ,List.filter_append,List.map_append,List.filter_cons,h2];simp
theorem Qho {c u:List Nd} {q:Nat}(hq:q<=4)(h:u∈Na c q):u∈Vv c:=by
 rw [<-Qqf];unfold Na at h⊢;cases h1:(Qo c).op==13
 ·rw [h1]at h;cases h
 rw [h1]at h;simp only [cond_true,List.mem_map,List.mem_filter,List.mem_range]at h⊢;obtain⟨i,⟨a,b⟩,e⟩:=h;exact⟨i,⟨by omega,b⟩,e⟩
def th(base:List (List Nd))(t:Nat)(f:Tr):Bool:=bif decide (0<=Yx base (Qn f))then t.testBit (Yx base (Qn f)).toNat else false
theorem Qyo(n:Nd):(n.op=3\/n.op=9\/n.op=13)\/((n.op==3)=false/\(n.op==9)=false/\(n.op==13)=false):=by
 by_cases h3:n.op=3
 ·exact .inl (.inl h3)
 by_cases h9:n.op=9
 ·exact .inl (.inr (.inl h9))
 by_cases h13:n.op=13
 ·exact .inl (.inr (.inr h13))
 exact .inr ⟨by simpa using h3,by simpa using h9,by simpa using h13⟩
theorem Qvm {base:List (List Nd)} {f:List Nd} {i:Nat} {n:Nd}(hi:f[i]?=some n):(Kq base f)[i]?=some (bif Js n then Yx base (Yz f (i:Int))else -1):=by
 unfold Kq;rw [List.getElem?_map,List.getElem?_range (List.getElem?_eq_some_iff.1 hi).1];simp only [Option.map_some,Ad hi]
theorem Qvp(base:List (List Nd))(f:List Nd):(Kq base f).length=f.length:=by simp [Kq]
section
variable {base:List (List Nd)} {f:List Nd} {t i:Nat} {n:Nd}
theorem Qae(hc:check f=0)(hi:f[i]?=some n)(v:List Bool)(hv:v=(List.range i).map fun j=>ev (th base t) (tr f j)):
 Vh n (bif Js n then Yx base (Yz f (i:Int))else -1) t v=ev (th base t) (tr f i):=by
 have hw:=Vy hc;have hil:=(List.getElem?_eq_some_iff.1 hi).1;have hs:Yz f (i:Int)=Qn (tr f i):=Dm hc hil;have ht:=Xv hw hi;obtain⟨hx,hy⟩:=hw i n hi;have gx:Qe n.op=true->v.getD n.x.toNat false=ev (th base t) (tr f n.x.toNat):=fun h=>by
  have:=hx h;rw [hv,Qk,List.getElem?_map,List.getElem?_range (by omega)];rfl
 have gy:Qh n.op=true->v.getD n.y.toNat false=ev (th base t) (tr f n.y.toNat):=fun h=>by
  have:=hy h;rw [hv,Qk,List.getElem?_map,List.getElem?_range (by omega)];rfl
 have hop:=(Tf n.op).1 (Dg hc n (List.mem_of_getElem? hi)).1;rw [hs];by_cases hb:Js n=true
 ·have hk:∀s:Tr,tr f i=s->ev (th base t) s=th base t s->Vh n (bif Js n then Yx base (Qn (tr f i))else -1) t v=ev (th base t) (tr f i):=fun s e1 e2=>by
   rw [hb,cond_true,e1,e2];unfold Vh th;cases hd:decide (0<=Yx base (Qn s))
   ·simp only [cond_false];have ho:n.op=3\/n.op=9\/n.op=13:=by simpa [Js]using hb
    rcases ho with ho|ho|ho <;> simp [ho]
   simp only [cond_true]
  have ho:n.op=3\/n.op=9\/n.op=13:=by simpa [Js]using hb
  rcases ho with ho|ho|ho
  ·exact hk (.leaf n) (by rw [ht];simp [Yh,ho,Qe,Qh]) (by simp [ev,ho])
  ·exact hk (.one n.head (tr f n.x.toNat)) (by rw [ht];simp [Yh,ho,Qe,Qh]) (by simp [ev,Bg,ho])
  exact hk (.two n.head (tr f n.x.toNat) (tr f n.y.toNat)) (by rw [ht];simp [Yh,ho,Qe,Qh]) (by simp [ev,Bg,ho])
 have hb':Js n=false:=by simpa using hb
 rw [hb',cond_false];have h3:n.op≠3/\n.op≠9/\n.op≠13:=by simpa [Js]using hb'
 have hneg:decide ((0:Int)<= -1)=false:=by decide
 unfold Vh;rw [hneg,cond_false,ht];by_cases h4:n.op=4
 ·rw [gx (by rw [h4];rfl)];simp [Yh,h4,Qe,Qh,ev,Bg]
 by_cases h5:n.op=5
 ·rw [gx (by rw [h5];rfl),gy (by rw [h5];rfl)];simp [Yh,h5,Qe,Qh,ev,Bg]
 by_cases h6:n.op=6
 ·rw [gx (by rw [h6];rfl),gy (by rw [h6];rfl)];simp [Yh,h6,Qe,Qh,ev,Bg]
 by_cases h7:n.op=7
 ·rw [gx (by rw [h7];rfl),gy (by rw [h7];rfl)];simp [Yh,h7,Qe,Qh,ev,Bg]
 by_cases h8:n.op=8
 ·rw [gx (by rw [h8];rfl),gy (by rw [h8];rfl)];simp [Yh,h8,Qe,Qh,ev,Bg]
 have b4:(n.op==4)=false:=by simpa using h4
 have b5:(n.op==5)=false:=by simpa using h5
 have b6:(n.op==6)=false:=by simpa using h6
 have b7:(n.op==7)=false:=by simpa using h7
 have b8:(n.op==8)=false:=by simpa using h8
 rw [b4,b5,b6,b7,b8];simp only [cond_false];unfold Yh;cases hY:Qh n.op
 ·cases hX:Qe n.op
  ·simp only [cond_false,ev,h3.1,if_false];cases n.op==1 <;> rfl
  have h1:n.op≠1:=fun e=>by rw [e]at hX;cases hX
  have b1:(n.op==1)=false:=by simpa using h1
  rw [b1];simp [ev,Bg,h4,h3.2.1]
 have h1:n.op≠1:=fun e=>by rw [e]at hY;cases hY
 have b1:(n.op==1)=false:=by simpa using h1
 rw [b1];simp [ev,Bg,h5,h6,h7,h8,h3.2.2]
theorem Qaj(hc:check f=0):∀(k i:Nat),i+k=f.length->Om t (f.drop i) ((Kq base f).drop i) ((List.range i).map fun j=>ev (th base t) (tr f j))=(List.range f.length).map fun j=>ev (th base t) (tr f j)
 |0,i,h=>by
  have e:i=f.length:=by omega
  subst e;rw [List.drop_length];rfl
 |k+1,i,h=>by
  have hi:f[i]?=some f[i]:=List.getElem?_eq_getElem (by omega);have hp:=Qvm (base:=base) hi;obtain⟨hpl,hpe⟩:=List.getElem?_eq_some_iff.1 hp;rw [List.drop_eq_getElem_cons (show i < f.length by omega),List.drop_eq_getElem_cons hpl,hpe];show Om t _ _ (_++ [_])=_;rw [Qae hc hi _ rfl];have e:(List.range i).map (fun j=>ev (th base t) (tr f j))++ [ev (th base t) (tr f i)]=(List.range (i+1)).map fun j=>ev (th base t) (tr f j):=by
   rw [List.range_succ,List.map_append];rfl
  rw [e];exact Qaj hc k (i+1) (by omega)
theorem Zq9(hc:check f=0):atN f (Kq base f) t=ev (th base t) (Qp f):=by
 unfold atN;have h:=Qaj (base:=base) (t:=t) hc f.length 0 (by omega);simp only [List.drop_zero,List.range_zero,List.map_nil]at h;rw [h];have hp:=(Jr hc).1;obtain⟨k,hk⟩:∃k,f.length=k+1:=⟨f.length - 1,by omega⟩;rw [hk,List.range_succ,List.map_append,List.map_cons,List.map_nil];unfold Qp;rw [hk];simp
end
theorem Ka(base:List (List Nd))(f:List Nd):(Ya base f).length=2^base.length:=by simp [Ya]
theorem Qzk {base:List (List Nd)} {f:List Nd}(hc:check f=0) {t:Nat}(ht:t < 2^base.length):(Ya base f).getD t false=ev (th base t) (Qp f):=by
 unfold Ya;rw [Qk,List.getElem?_map,List.getElem?_range ht];exact Zq9 hc
def Qpl(a b:List Bool):Prop:=∀t,b.getD t false=true->a.getD t false=true
theorem Qbd(l:List Bool)(t u:Nat):(l.set t false).getD u false=(bif u==t then false else l.getD u false):=by
 rw [Qk,List.getElem?_set,Qk];by_cases h:u=t
 ·subst h;simp
  split <;> rfl
 have:(u==t)=false:=by simpa using h
 rw [this,if_neg (fun e=>h e.symm)];rfl
theorem Qwa(l:List Bool)(t:Nat):Qpl l (l.set t false):=fun u h=>by
 rw [Qbd]at h;cases e:u==t
 ·rw [e]at h;exact h
 rw [e]at h;cases h
def cnt(l:List Bool):Nat:=l.countP id
theorem Qnx:∀(l:List Bool) (t:Nat),l.getD t false=true->cnt (l.set t false)+1=cnt l
 |[],t,h=>by simp at h
 |a :: r,0,h=>by
  simp at h;subst h;simp [cnt]
 |a :: r,t+1,h=>by
  have ih:=Qnx r t (by simpa using h);unfold cnt at ih⊢;rw [List.set_cons_succ,List.countP_cons,List.countP_cons];omega
theorem Qy3(l:List Bool):cnt l<=l.length:=List.countP_le_length
section
variable {why:List Bool->Nat->Option Int}
def Gn(why:List Bool->Nat->Option Int)(s:List Bool×List (Nat×Int))(t:Nat):List Bool×List (Nat×Int):=
 bif s.1.getD t false then(match why s.1 t with|none=>s|some i=>(s.1.set t false,s.2++ [(t,i)]))else s
theorem Ce(t:Nat)(r:List Nat)(s:List Bool×List (Nat×Int)):Kl why (t :: r) s=Kl why r (Gn why s t):=rfl
theorem Qz4:∀(a b:List Nat) (s:List Bool×List (Nat×Int)),Kl why (a++b) s=Kl why b (Kl why a s)
 |[],_,_=>rfl
 |t :: r,b,s=>Qz4 r b (Gn why s t)
theorem Qhl(s:List Bool×List (Nat×Int))(t:Nat):(Gn why s t).1.length=s.1.length:=by
 unfold Gn;cases s.1.getD t false
 ·rfl
 cases why s.1 t with
 |none=>rfl
 |some i=>simp
theorem Qbq:∀(r:List Nat) (s:List Bool×List (Nat×Int)),(Kl why r s).1.length=s.1.length
 |[],_=>rfl
 |t :: r,s=>(Qbq r (Gn why s t)).trans (Qhl s t)
theorem Wi(s:List Bool×List (Nat×Int))(t:Nat):
 (Gn why s t=s/\(s.1.getD t false=true->why s.1 t=none))\/(∃i,s.1.getD t false=true/\why s.1 t=some i/\Gn why s t=(s.1.set t false,s.2++ [(t,i)])):=by
 unfold Gn;cases h:s.1.getD t false
 ·exact .inl ⟨rfl,fun e=>by cases e⟩
 cases hw:why s.1 t with
 |none=>exact .inl ⟨rfl,fun _=>rfl⟩
 |some i=>exact .inr ⟨i,rfl,rfl,rfl⟩
theorem Qbs(s:List Bool×List (Nat×Int))(t:Nat):cnt (Gn why s t).1+(Gn why s t).2.length=cnt s.1+s.2.length/\s.2.length<=(Gn why s t).2.length:=by
 rcases Wi (why:=why) s t with⟨e,_⟩|⟨i,h,_,e⟩
 ·rw [e];exact⟨rfl,Nat.le_refl _⟩
 rw [e];have:=Qnx s.1 t h;simp only [List.length_append,List.length_singleton];omega
theorem Pc:∀(r:List Nat) (s:List Bool×List (Nat×Int)),cnt (Kl why r s).1+(Kl why r s).2.length=cnt s.1+s.2.length/\s.2.length<=(Kl why r s).2.length
 |[],_=>⟨rfl,Nat.le_refl _⟩
 |t :: r,s=>by
  have h1:=Qbs (why:=why) s t;have h2:=Pc r (Gn why s t);rw [Ce];omega
theorem Iw:∀(r:List Nat) (s:List Bool×List (Nat×Int)),(Kl why r s).2.length=s.2.length->Kl why r s=s/\∀t∈r,s.1.getD t false=true->why s.1 t=none
 |[],s,_=>⟨rfl,fun t h=>by cases h⟩
 |t :: r,s,h=>by
  rw [Ce]at h;have h2:=(Pc (why:=why) r (Gn why s t)).2;rcases Wi (why:=why) s t with⟨e,hn⟩|⟨i,_,_,e⟩
  ·rw [e]at h;obtain⟨a,b⟩:=Iw r s h;rw [Ce,e];refine⟨a,fun u hu=> ?_⟩;rcases List.mem_cons.1 hu with rfl|hu
   ·exact hn
   exact b u hu
  rw [e]at h h2;simp only [List.length_append,List.length_singleton]at h2;omega
theorem Qfv:∀(k:Nat) (s:List Bool×List (Nat×Int)),(Da why k s).1.length=s.1.length
 |0,_=>rfl
 |k+1,s=>by
  unfold Da;cases(Kl why (List.range s.1.length) s).2.length==s.2.length
  ·exact(Qfv k _).trans (Qbq _ _)
  rfl
theorem Qjs:∀(k:Nat) (s:List Bool×List (Nat×Int)),cnt s.1 < k->∀t,(Da why k s).1.getD t false=true->why (Da why k s).1 t=none
 |0,s,h,_=>by omega
 |k+1,s,h,t=>by
  unfold Da;cases he:(Kl why (List.range s.1.length) s).2.length==s.2.length
  ·have hne:(Kl why (List.range s.1.length) s).2.length≠s.2.length:=by simpa using he
   have hc:=Pc (why:=why) (List.range s.1.length) s;exact Qjs k _ (by omega) t
  intro ht;have hl:t < s.1.length:=by
   by_cases e:t < s.1.length
   ·exact e
   rw [cond_true,Qk,List.getElem?_eq_none (by omega)]at ht;cases ht
  exact(Iw _ _ (by simpa using he)).2 t (List.mem_range.2 hl) ht
theorem Qxk {S:List Bool->Prop}(hS:∀(al:List Bool) (t:Nat) (i:Int),S al->al.getD t false=true->why al t=some i->S (al.set t false)):∀(r:List Nat) (s:List Bool×List (Nat×Int)),S s.1->S (Kl why r s).1
 |[],_,h=>h
 |t :: r,s,h=>by
  rw [Ce];refine Qxk hS r _ ?_;rcases Wi (why:=why) s t with⟨e,_⟩|⟨i,h1,h2,e⟩
  ·rw [e];exact h
  rw [e];exact hS _ _ _ h h1 h2
theorem Oo {S:List Bool->Prop}(hS:∀(al:List Bool) (t:Nat) (i:Int),S al->al.getD t false=true->why al t=some i->S (al.set t false)):∀(k:Nat) (s:List Bool×List (Nat×Int)),S s.1->S (Da why k s).1
 |0,_,h=>h
 |k+1,s,h=>by
  unfold Da;cases(Kl why (List.range s.1.length) s).2.length==s.2.length
  ·exact Oo hS k _ (Qxk hS _ _ h)
  exact h
end
section
variable {why:List Bool->Nat->Option Int} {lk:List Bool->Nat->Int->Bool} (hwl:∀al t i,why al t=some i->lk al t i=true)
include hwl
def Zjm(lk:List Bool->Nat->Int->Bool)(al0:List Bool)(s:List Bool×List (Nat×Int)):Prop:=Qg6 lk (s.2.map Prod.fst) (s.2.map Prod.snd) al0=some s.1
end
section
variable {l:List (List Nd)} {t0:Tr} (hB:Ri l t0)
include hB
theorem Fg {s:Tr}(hs:s∈l.map Qp):∃i,l[i]?=some (Qn s)/\i < l.length/\∀t,th l t s=t.testBit i:=by
 obtain⟨_,hm⟩:=(Yw hB.can).1 hs;obtain⟨i,hi,e⟩:=List.getElem_of_mem hm;have hg:l[i]?=some (Qn s):=by rw [Qv hi,e]
 refine⟨i,hg,hi,fun t=> ?_⟩;unfold th;rw [Xb hB.nodup hg,decide_eq_true (by omega),cond_true,Int.toNat_natCast]
theorem Qjv {i:Nat} {c:List Nd}(hi:l[i]?=some c):∃s,Xf s/\c=Qn s/\Js s.top=true/\s∈l.map Qp:=by
 obtain⟨s,hs,e,hb⟩:=hB.can c (List.mem_of_getElem? hi);exact⟨s,hs,e,hb,(Yw hB.can).2 ⟨hs,e▸List.mem_of_getElem? hi⟩⟩
theorem Xi {k:Kn} :k∈Zb l↔∃i n a,.one n a∈l.map Qp/\l[i]?=some (Qn (.one n a))/\k=⟨n.i,i,Ya l (Qn a)⟩:=by
 unfold Zb;rw [List.mem_flatMap];constructor
 ·rintro⟨i,hi,hk⟩;have hil:=List.mem_range.1 hi;have hg:l[i]?=some (l.getD i []):=by rw [Qk,Qv hil];rfl
  obtain⟨s,hs,e,hb,hm⟩:=Qjv hB hg;rw [e]at hk hg;unfold Li at hk;rw [hs.last]at hk;cases ho:s.top.op==9
  ·rw [ho]at hk;cases hk
  rw [ho]at hk;have ho9:s.top.op=9:=by simpa using ho
  cases s with
  |leaf n=>have:=hs.xp.1.1.1;rw [show n.op=9 from ho9]at this;cases this
  |two n a b=>have:=hs.xp.1.1.2.1;rw [show n.op=9 from ho9]at this;cases this
  |one n a =>
   obtain⟨_,e2,_,e4,_⟩:=Qjo hs.check hs.tree;rw [e2,e4]at hk;exact⟨i,n,a,hm,hg,by simpa using hk⟩
 rintro⟨i,n,a,hm,hg,rfl⟩;have hil:=(List.getElem?_eq_some_iff.1 hg).1;obtain⟨hs,_⟩:=(Yw hB.can).1 hm;refine⟨i,List.mem_range.2 hil,?_⟩;have e:l.getD i []=Qn (.one n a):=by rw [Qk,hg];rfl
 obtain⟨e1,e2,_,e4,_⟩:=Qjo hs.check hs.tree;unfold Li;rw [e,e1,e2,e4,(hB.closed.know n a hm).1];simp
theorem Bi {k:Cm} :k∈Jf l↔∃i n a b,.two n a b∈l.map Qp/\l[i]?=some (Qn (.two n a b))/\k=⟨i,n.g,Ya l (Qn a),Ya l (Qn b),Ds l (Qn (.two n a b))⟩:=by
 unfold Jf;rw [List.mem_flatMap];constructor
 ·rintro⟨i,hi,hk⟩;have hil:=List.mem_range.1 hi;have hg:l[i]?=some (l.getD i []):=by rw [Qk,Qv hil];rfl
  obtain⟨s,hs,e,hb,hm⟩:=Qjv hB hg;rw [e]at hk hg;unfold So at hk;rw [hs.last]at hk;cases ho:s.top.op==13
  ·rw [ho]at hk;cases hk
  rw [ho]at hk;obtain⟨n,a,b,rfl,_⟩:=Ek hs (by simpa using ho);obtain⟨_,e2,e3,e4⟩:=Nh hs.check hs.tree;rw [e2,e3,e4]at hk;exact⟨i,n,a,b,hm,hg,by simpa using hk⟩
 rintro⟨i,n,a,b,hm,hg,rfl⟩;have hil:=(List.getElem?_eq_some_iff.1 hg).1;obtain⟨hs,_⟩:=(Yw hB.can).1 hm;refine⟨i,List.mem_range.2 hil,?_⟩;have e:l.getD i []=Qn (.two n a b):=by rw [Qk,hg];rfl
 obtain⟨e1,e2,e3,e4⟩:=Nh hs.check hs.tree;unfold So;rw [e,e1,e2,e3,e4,(hB.closed.com n a b hm).1];simp
end
theorem Qbg {lg:Int} :Fk lg=true↔Qgs lg:=by
 unfold Fk Qgs;simp
theorem Iv:∀(L:List Nat) (p j:Nat),(L.foldl (fun p x=>p|||2^x) p).testBit j=(p.testBit j||decide (j∈L))
 |[],p,j=>by simp
 |x :: r,p,j=>by
  rw [List.foldl_cons,Iv r,Nat.testBit_or,Nat.testBit_two_pow];by_cases h:x=j
  ·subst h;simp
  have h':¬j=x:=fun e=>h e.symm
  simp [h,h',List.mem_cons]
theorem Qac {t F:Nat} :((t&&&F)==F)=true↔∀j,F.testBit j=true->t.testBit j=true:=by
 rw [beq_iff_eq];constructor
 ·intro h j hj;have:=congrArg (fun x=>x.testBit j) h;simp only [Nat.testBit_and,hj,Bool.and_true]at this;exact this
 intro h;refine Nat.eq_of_testBit_eq fun j=> ?_
 rw [Nat.testBit_and];cases hj:F.testBit j
 ·simp
 rw [h j hj];rfl
section
variable {l:List (List Nd)} {t0:Tr} (hB:Ri l t0)
include hB
theorem Qxy {n:Nd} {a b:Tr}(hm:.two n a b∈l.map Qp)(t:Nat):((t&&&Ds l (Qn (.two n a b)))==Ds l (Qn (.two n a b)))=true↔∀i:Nat,i < 4->Yi n.g i=true->th l t (Xh i n a b)=true:=by
 obtain⟨hs,_⟩:=(Yw hB.can).1 hm;obtain⟨_,e2,_,_⟩:=Nh hs.check hs.tree;have hu:∀i,i < 4->Yi n.g i=true->Gi i (Qn (.two n a b))=Qn (Xh i n a b):=fun i hi hg=>by
  obtain⟨hx,_⟩:=(Yw hB.can).1 ((hB.closed.com n a b hm).2.2.2.2.2 i hi hg);rw [hs.unf hi,hx.short]
 have hth:∀i,i < 4->Yi n.g i=true->th l t (Xh i n a b)=t.testBit (Yx l (Gi i (Qn (.two n a b)))).toNat:=fun i hi hg=>by
  obtain⟨j,hj,_,h⟩:=Fg hB ((hB.closed.com n a b hm).2.2.2.2.2 i hi hg);rw [h,hu i hi hg,Xb hB.nodup hj,Int.toNat_natCast]
 have hpe:Ds l (Qn (.two n a b))=(((List.range 4).filter fun i=>Yi n.g i).map fun i=>(Yx l (Gi i (Qn (.two n a b)))).toNat).foldl (fun p x=>p|||2^x) 0:=by
  unfold Ds;rw [e2,List.foldl_map]
 rw [Qac,hpe];constructor
 ·intro h i hi hg;rw [hth i hi hg];refine h _ ?_;rw [Iv];simp only [Nat.zero_testBit,Bool.false_or,decide_eq_true_iff,List.mem_map];exact⟨i,List.mem_filter.2 ⟨List.mem_range.2 hi,hg⟩,rfl⟩
 intro h j hj;rw [Iv]at hj;simp only [Nat.zero_testBit,Bool.false_or,decide_eq_true_iff,List.mem_map]at hj;obtain⟨i,hi,rfl⟩:=hj;obtain⟨h1,h2⟩:=List.mem_filter.1 hi;have h1:=List.mem_range.1 h1;rw [<-hth i h1 h2];exact h i h1 h2
theorem Tg {n:Nd} {a:Tr}(hm:.one n a∈l.map Qp) {u:Nat}(hu:u < 2^l.length):(Ya l (Qn a)).getD u false=ev (th l u) a:=by
 obtain⟨hs,_⟩:=(Yw hB.can).1 hm;rw [Qzk hs.of_one.check hu,hs.of_one.tree]
theorem Oe {n:Nd} {a b:Tr}(hm:.two n a b∈l.map Qp) {u:Nat}(hu:u < 2^l.length):(Ya l (Qn a)).getD u false=ev (th l u) a/\(Ya l (Qn b)).getD u false=ev (th l u) b:=by
 obtain⟨hs,_⟩:=(Yw hB.can).1 hm;rw [Qzk hs.of_two.1.check hu,hs.of_two.1.tree,Qzk hs.of_two.2.check hu,hs.of_two.2.tree];exact⟨rfl,rfl⟩
theorem Qv5 {lg:Int} {t:Nat}(ht:t < 2^l.length):Ye lg (Zb l) (Jf l) t=true↔Coh lg (l.map Qp) (th l t):=by
 unfold Ye;rw [Bool.and_eq_true,List.all_eq_true,List.all_eq_true];constructor
 ·rintro⟨h1,h2⟩;refine⟨fun n a b hm=> ?_,fun hr n a hm hth=> ?_⟩
  ·obtain⟨i,hg,_,hi⟩:=Fg hB hm;have:=h1 _ ((Bi hB).2 ⟨i,n,a,b,hm,hg,rfl⟩);rw [beq_iff_eq]at this;simp only at this;rw [hi,this,Qxy hB hm]
  obtain⟨i,hg,_,hi⟩:=Fg hB hm;have:=h2 _ ((Xi hB).2 ⟨i,n,a,hm,hg,rfl⟩);simp only at this;rw [(Qbg).2 hr,<-hi,hth,Tg hB hm ht]at this
  simpa using this
 rintro⟨h1,h2⟩;constructor
 ·intro c hc;obtain⟨i,n,a,b,hm,hg,rfl⟩:=(Bi hB).1 hc;obtain⟨j,hg',_,hi⟩:=Fg hB hm;have hij:j=i:=by
   have e1:=Xb hB.nodup hg;have e2:=Xb hB.nodup hg';omega
  subst hij;rw [beq_iff_eq,Bool.eq_iff_iff,Qxy hB hm,<-h1 n a b hm,hi]
 intro k hk;obtain⟨i,n,a,hm,hg,rfl⟩:=(Xi hB).1 hk;obtain⟨j,hg',_,hi⟩:=Fg hB hm;have hij:j=i:=by
  have e1:=Xb hB.nodup hg;have e2:=Xb hB.nodup hg';omega
 subst hij;simp only;cases hr:Fk lg
 ·rfl
 rw [<-hi,Tg hB hm ht];cases hth:th l t (.one n a)
 ·rfl
 rw [h2 ((Qbg).1 hr) n a hm hth];rfl
theorem Ui {lg:Int} {i:Int} {t u:Nat}(hu:u < 2^l.length):Ze lg (Zb l) i t u=true↔Se lg (l.map Qp) i (th l t) (th l u):=by
 unfold Ze Se;rw [List.all_eq_true];constructor
 ·intro h n a hm hni;obtain⟨j,hg,_,hi⟩:=Fg hB hm;have:=h _ ((Xi hB).2 ⟨j,n,a,hm,hg,rfl⟩);simp only at this;rw [Tg hB hm hu,<-hi,<-hi]at this;have hne:(n.i !=i)=false:=by simpa using hni
  rw [hne]at this
  simpa using this
 intro h k hk;obtain⟨j,n,a,hm,hg,rfl⟩:=(Xi hB).1 hk;obtain⟨j',hg',_,hi⟩:=Fg hB hm;have hij:j'=j:=by
  have e1:=Xb hB.nodup hg;have e2:=Xb hB.nodup hg';omega
 subst hij;simp only;rw [Tg hB hm hu,<-hi,<-hi];by_cases hni:n.i=i
 ·rw [h n a hm hni,Bool.or_true]
 have:(n.i !=i)=true:=by simpa using hni
 rw [this];rfl
end
end Go.Proofs.YtkmclcmnoicagaaGreatDoor
