/- A formula that fits: the checker's set is where it holds. Plain. -/
import Derived.Test.YtkmclcmnoicagaaGreatDoorK10
namespace Go.Proofs.YtkmclcmnoicagaaGreatDoor
set_option maxRecDepth 100000
set_option maxHeartbeats 128000000
open Go.RowKit
theorem Qpd {n:Nd}(h:Zh n)(h1:11<=n.op)(h2:n.op<=13):1<=n.g:=by
 obtain⟨_,_,h3,_,_⟩:=h;unfold Jt at h3;rcases(show n.op=11\/n.op=12\/n.op=13 by omega)with ho|ho|ho <;>(rw [ho]at h3;simp [Qt,Zg,Qo,Qi,Zk]at h3;omega)
theorem Qak {md:Md} {f:List Nd}(zT:Zq md=0)(hc:check f=0):∀k,k < f.length->
 (atP md f (Jk md f k).1 (Jk md f k).2 k).2=true->IsW md (atP md f (Jk md f k).1 (Jk md f k).2 k).1 (tr f k):=by
 intro k
 induction k using Nat.strongRecOn with
 |_ k ih =>
  intro hk nI;obtain⟨n,hn⟩:∃n,f[k]?=some n:=⟨_,Qv hk⟩;have hm:=List.mem_of_getElem? hn;have hh:=Ni hc n hm;obtain⟨hx,hy⟩:=Ym hc k n hn;unfold atP at nI⊢;rw [Qy4 hn]at nI⊢;by_cases ho:okP n (Jk md f k).2=true
  ·rw [if_pos ho]at nI⊢;have UO:Jz md n=true:=nI;have xK:=Qb0 UO;rw [Xk (Ym hc) hn];show IsW md (Vv md n _ _) _;unfold Vv;rw [if_pos UO];unfold okP at ho;rw [Bool.and_eq_true]at ho;refine Qgm zT (Qav hh UO (fun h h'=>Qpd hh h h')) (fun h=> ?_) (fun h=> ?_)
   ·have hb:=hx h;have h4:4<=n.op:=by unfold Qw at h;rw [Bool.and_eq_true]at h;exact of_decide_eq_true h.1
    have h5:=ho.1;rw [decide_eq_true h4,Bool.not_true,Bool.false_or]at h5;rw [(Rf md f k _ (by omega)).1];rw [(Rf md f k _ (by omega)).2]at h5;exact ih _ (by omega) (by omega) h5
   have hb:=hy h;have G7:((decide (5<=n.op)&&decide (n.op<=8))||n.op==13)=true:=by
    unfold Qc at h;simp only [Bool.or_eq_true,Bool.and_eq_true,decide_eq_true_eq,beq_iff_eq]at h⊢;omega
   have h5:=ho.2;rw [G7,Bool.not_true,Bool.false_or]at h5;rw [(Rf md f k _ (by omega)).1];rw [(Rf md f k _ (by omega)).2]at h5;exact ih _ (by omega) (by omega) h5
  rw [if_neg ho]at nI;cases nI
theorem He {md:Md} {f:List Nd}(h:Zi md f=0):IsW md (Nv md f) (Qe f):=by
 obtain⟨zT,hc,_,_⟩:=Vr h;have hp:=(Jg hc).1;unfold Nv;rw [(Rf md f f.length (f.length - 1) (by omega)).1];refine Qak zT hc (f.length - 1) (by omega) ?_;rw [Qm8 hc _ (by omega)];exact Qhi h
def Ny {α:Type}(p:α->Bool)(l:List α):Int:=match l.findIdx? p with|none=> -1|some j=>j
theorem Hm {α:Type} {p:α->Bool} {l:List α} {k:Nat} {s:α}(h:l[k]?=some s)(hp:p s=true)(hn:∀t∈l.take k,p t=false):Ny p l=(k:Int):=by
 have:l.findIdx? p=some k:=by
  induction l generalizing k with
  |nil=>simp at h
  |cons a r ih =>
   cases k with
   |zero =>
    simp only [List.getElem?_cons_zero,Option.some.injEq]at h;subst h;rw [List.findIdx?_cons,hp];rfl
   |succ k =>
    have ha:p a=false:=hn a (by simp);rw [List.findIdx?_cons,ha,ih (k:=k) (by simpa using h) (fun t ht=>hn t (by simp [ht]))];rfl
 unfold Ny;rw [this]
theorem Th {α:Type} {p:α->Bool} {l:List α}(hn:∀t∈l,p t=false):Ny p l= -1:=by
 have:l.findIdx? p=none:=by
  induction l with
  |nil=>simp
  |cons a r ih=>rw [List.findIdx?_cons,hn a (by simp),ih (fun t ht=>hn t (by simp [ht]))];rfl
 unfold Ny;rw [this]
theorem Hl {α:Type}(p:α->Bool)(l:List α):decide (0<=Ny p l)=l.any p:=by
 by_cases h:∃t∈l,p t=true
 ·obtain⟨t,ht,hp⟩:=h;have e:∃j,l.findIdx? p=some j:=by
   cases hj:l.findIdx? p with
   |some j=>exact⟨j,rfl⟩
   |none=>exact absurd hp (by rw [List.findIdx?_eq_none_iff.1 hj t ht];simp)
  obtain⟨j,hj⟩:=e;rw [show l.any p=true from List.any_eq_true.2 ⟨t,ht,hp⟩];unfold Ny;rw [hj];exact decide_eq_true (Int.natCast_nonneg j)
 have hn:∀t∈l,p t=false:=fun t ht=>by
  cases e:p t
  ·rfl
  exact absurd ⟨t,ht,e⟩ h
 rw [Th hn,show l.any p=false from List.any_eq_false.2 (fun t ht=>by rw [hn t ht];simp)];rfl
theorem Pw {α:Type} {l:List α} {k:Nat} {s:α}(h:l[k]?=some s):l.take (k+1)=l.take k++ [s]:=by
 rw [List.take_add_one,h];rfl
theorem Qxe {α:Type} {l:List α} {k:Nat} {s:α}(h:l[k]?=some s):s∈l:=List.mem_of_getElem? h
theorem Qnw(g:Nat)(lb:Array Value)(eg:∀args w,(callFunc g args).run Tryz.prog w=.ok (.enter g args) w)(p:Int->Bool)(v:Value)(l:List (Int))(w:World)(h:Bc w v l)
 (hp:∀(W:World) (s:Int),s∈l->Ext w W->Calls Tryz.prog g (#[.int .i64 s]++lb) W fun e w'=>e=.returned (.bool (p s))/\Ext W w'):
 Calls Tryz.prog 198 #[v,.func (.func g) #[] lb] w fun e w'=>e=.returned (.int .i64 (Ny p l))/\Ext w w':=by
 obtain⟨A,c,rfl,xR,yO,hr⟩:=h;have HR:=Qq hr;clear hr;unfold maxLen at yO;have HP:=Qq hp;clear hp;go_enter Tryz.func198,Tryz.ntmps198;go_wp2_with fail;go_loopw [5,8] (fun _ i wr=>∃k:Nat,k<=l.length/\i=.int .i64 (k:Int)/\Hid (∀t∈l.take k,p t=false)/\Hid (Ext w wr)) (fun _ i _=>l.length - (intOf i).toNat)
 case atStart=>exact⟨0,Nat.zero_le _,rfl,Qq (by simp),Qq Qz⟩
 case round =>
  obtain⟨k,hk,rfl,tY,HX⟩:=hrel;by_cases hlt2:k < l.length
  ·obtain⟨s,hs⟩:∃s,l[k]?=some s:=⟨_,Qv hlt2⟩;obtain⟨ad,rfl,yT,sD⟩:=HR.out (by intro e;rw [e]at hlt2;simp at hlt2);have a0:wr.cell? (ad.add k)=some (.int .i64 s):=(HX.out.cell (p:=ad.add k) (Qj yT)).trans (sD k s hs);clear sD;have HA:=Qq hs;have yP:(k:Int) < (l.length:Int):=by omega
   clear hs;cases vP:p s
   ·have HT:Hid (∀t∈l.take (k+1),p t=false):=Qq (by
     rw [Pw HA.out];intro t ht;rcases List.mem_append.1 ht with ht|ht
     ·exact tY.out t ht
     rw [List.mem_singleton.1 ht];exact vP)
    go_wp2_with(refine(HP.out _ s (Qxe HA.out) HX.out).mono ?_;rintro e w1 ⟨rfl,hx⟩;rw [vP]);go_roundw
    case rel=>exact⟨k+1,by omega,by go_num,HT,Qq (HX.out.trans hx)⟩
    case measure=>simp [intOf];omega
   have HE:=Qq (Hm (p:=p) HA.out vP tY.out);go_wp2_with(refine(HP.out _ s (Qxe HA.out) HX.out).mono ?_;rintro e w1 ⟨rfl,hx⟩;rw [vP]);go_ret;exact⟨by rw [HE.out] <;> rfl,HX.out.trans hx⟩
  obtain rfl:l.length=k:=by omega
  have HE:=Qq (Th (p:=p) (l:=l) (fun t ht=>tY.out t (by rw [List.take_of_length_le (Nat.le_refl _)];exact ht)));go_wp2_with fail;go_ret;exact⟨by rw [HE.out] <;> rfl,HX.out⟩
theorem Qxr(g:Nat)(lb:Array Value)(eg:∀args w,(callFunc g args).run Tryz.prog w=.ok (.enter g args) w)(p:Int->Bool)(v:Value)(l:List (Int))(w:World)(h:Bc w v l)
 (hp:∀(W:World) (s:Int),s∈l->Ext w W->Calls Tryz.prog g (#[.int .i64 s]++lb) W fun e w'=>e=.returned (.bool (p s))/\Ext W w'):
 Calls Tryz.prog 164 #[v,.func (.func g) #[] lb] w fun e w'=>e=.returned (.bool (l.any p))/\Ext w w':=by
 have HI:=Qq (Qnw g lb eg p v l w h hp);have HE:=Qq (Hl p l);clear hp h;obtain⟨z,hz⟩:∃z,z=Ny p l:=⟨_,rfl⟩;rw [<-hz]at HI HE;clear hz;go_enter Tryz.func164,Tryz.ntmps164;go_wp2_with(refine HI.out.mono ?_;rintro e w1 ⟨rfl,hx⟩);go_ret;exact⟨by rw [<-HE.out] <;> rfl,hx⟩
theorem Tj(w:World)(l:List Int)(t:TypeId)(hl:l.length<=10):Bc (w.alloc (.cells (l.map (Value.int .i64)).toArray t)) (.slice (some ⟨w.heap.size,0,none⟩) l.length l.length) l:=by
 refine⟨_,_,rfl,Nat.le_refl _,by unfold maxLen;omega,fun _=>⟨_,rfl,by simp,fun k z hk=> ?_⟩⟩;have h1:=heap_alloc_new w (.cells (l.map (Value.int .i64)).toArray t);rw [Fr];have h2:(w.alloc (.cells (l.map (Value.int .i64)).toArray t)).heap[w.heap.size]?=some (Obj.cells (l.map (Value.int .i64)).toArray t (0,0)):=h1;simp only [World.cell?,h2];rw [List.getElem?_toArray,List.getElem?_map,hk];rfl
theorem Pn(lg:Int)(w:World):
 Calls Tryz.prog 98 #[.int .i64 lg] w fun e w'=>∃v,e=.returned (.tuple #[v,.int .i64 (p15 lg)])/\Ext w w'/\Hid (p15 lg=0->Bc w' v (Gg lg)):=by
 by_cases hc:0<=lg/\lg<=6
 ·have yS:lg=0\/lg=1\/lg=2\/lg=3\/lg=4\/lg=5\/lg=6:=by omega
  clear hc;rcases yS with rfl|rfl|rfl|rfl|rfl|rfl|rfl
  all_goals
   go_enter Tryz.func98,Tryz.ntmps98;go_wp2_with fail;go_ret2
   first
   |exact⟨_,rfl,Qz,Qq fun _=>Bc.none_ _⟩
   |exact⟨_,rfl,Qz.alloc _,Qq fun _=>Tj w [1] _ (by decide)⟩
   |exact⟨_,rfl,Qz.alloc _,Qq fun _=>Tj w [2] _ (by decide)⟩
   |exact⟨_,rfl,Qz.alloc _,Qq fun _=>Tj w [4] _ (by decide)⟩
   |exact⟨_,rfl,Qz.alloc _,Qq fun _=>Tj w [2,4] _ (by decide)⟩
   |exact⟨_,rfl,Qz.alloc _,Qq fun _=>Tj w [1,4,5] _ (by decide)⟩
   |exact⟨_,rfl,Qz.alloc _,Qq fun _=>Tj w [2,4,5] _ (by decide)⟩
 have h0:(lg==0)=false:=by rw [beq_eq_false_iff_ne];omega
 have h1:(lg==1)=false:=by rw [beq_eq_false_iff_ne];omega
 have h2:(lg==2)=false:=by rw [beq_eq_false_iff_ne];omega
 have h3:(lg==3)=false:=by rw [beq_eq_false_iff_ne];omega
 have h4:(lg==4)=false:=by rw [beq_eq_false_iff_ne];omega
 have h5:(lg==5)=false:=by rw [beq_eq_false_iff_ne];omega
 have h6:(lg==6)=false:=by rw [beq_eq_false_iff_ne];omega
 have HC:=Qq (show p15 lg=1 from if_neg hc);clear hc;go_enter Tryz.func98,Tryz.ntmps98;go_wp2_with fail;go_ret2;exact⟨_,by rw [HC.out] <;> rfl,Qz,Qq fun e=>by rw [HC.out]at e;cases e⟩
theorem Iz(n:Nat)(h:n<=64)(w:World):Calls Tryz.prog 115 #[.int .i64 (n:Int)] w fun e w'=>e=.returned (.int .u64 ((Zs n:Nat):Int))/\w=w':=by
 by_cases uP:n=64
 ·subst uP;go_enter Tryz.func115,Tryz.ntmps115;go_wp2_with fail;go_ret;exact⟨rfl,rfl⟩
 have hn:n < 64:=by omega
 have vR:¬(64:Int)<=(n:Int):=by omega
 have wD:min n 64=n:=by omega
 have HW:=Qq (Sp hn);clear uP h;go_enter Tryz.func115,Tryz.ntmps115;go_wp2_with fail;go_ret;exact⟨by rw [<-show((2^n - 1:Nat):Int)=((Zs n:Nat):Int)from rfl,<-HW.out] <;> rfl,rfl⟩
theorem Ij(n:Nat)(h:n<=64)(w:World):Calls Tryz.prog 94 #[.int .i64 (n:Int)] w fun e w'=>e=.returned (.int .u64 ((Zs n:Nat):Int))/\w=w':=by
 by_cases uP:n=64
 ·subst uP;go_enter Tryz.func94,Tryz.ntmps94;go_wp2_with fail;go_ret;exact⟨rfl,rfl⟩
 have hn:n < 64:=by omega
 have vR:¬(64:Int)<=(n:Int):=by omega
 have wD:min n 64=n:=by omega
 have HW:=Qq (Sp hn);clear uP h;go_enter Tryz.func94,Tryz.ntmps94;go_wp2_with fail;go_ret;exact⟨by rw [<-show((2^n - 1:Nat):Int)=((Zs n:Nat):Int)from rfl,<-HW.out] <;> rfl,rfl⟩
theorem Gx(v:Value)(l:List Nat)(w:World)(h:Jb w v l)(hw:∀s∈l,Qp s):
 Calls Tryz.prog 113 #[.int .i64 (l.length:Int),v] w fun e w'=>e=.returned (.int .i64 (Jw l.length l))/\Ext w w':=by
 obtain⟨A,c,rfl,JZ,xI,HL⟩:=Vp h;have sM:=Qq hw;unfold maxLen at xI;clear h hw;by_cases hn:l.length<=64
 ·have vR:¬(64:Int) < (l.length:Int):=by omega
  have HC:=Qq (show Jw l.length l=if Zb l l.length then 1 else 0 by unfold Jw;rw [if_neg (by omega),if_neg (by simp)];rfl);obtain⟨n,zQ⟩:∃n,n=l.length:=⟨_,rfl⟩;have HN:=Qq zQ;rw [<-zQ]at HC hn;rw [<-zQ];have aB:¬(64:Int) < (n:Int):=by omega
  have iF:((n:Int) !=(n:Int))=false:=by simp
  have zH:l.length=n:=zQ.symm;clear zQ vR;go_enter Tryz.func113,Tryz.ntmps113;go_wp2_with fail;go_loopw [19] (fun v wr=>∃k:Nat,v=.int .i64 (k:Int)/\k<=n/\Hid (Ext w wr/\∀j,j < k->decide (l.getD j 0 < 2^n)=true)) (fun v _=>n - (intOf v).toNat)
  case atStart=>exact⟨0,rfl,Nat.zero_le _,Qq ⟨Qz,fun j hj=>absurd hj (by omega)⟩⟩
  case round =>
   obtain⟨k,rfl,hk,zY⟩:=hrel;have HX:=Qq zY.out.1;have HJ:=Qq zY.out.2;clear zY;by_cases hlt2:k < n
   ·have yP:(k:Int) < (n:Int):=by omega
    obtain⟨ad,rfl,zU,hc⟩:=HL.out k (by omega);have a0:=(HX.out.cell (p:=ad.add k) (Qj zU)).trans hc;have al:(ad.add k).block < wr.heap.size:=by rw [Qr];exact Qy zU HX.out.size
    have zA:=Qq (show decide (l.getD k 0 < 2^n)=true->∀j,j < k+1->decide (l.getD j 0 < 2^n)=true from fun h=>Dg (P:=fun j=>decide (l.getD j 0 < 2^n)=true) HJ.out h);have tM:=Qq (show decide (l.getD k 0 < 2^n)=false->Zb l n=true from We (by omega));have yC:=Qjd (n:=n) (Yr sM.out k) hn;obtain⟨sx,tD⟩:∃s,s=l.getD k 0:=⟨_,rfl⟩;rw [<-tD]at a0 yC zA tM;clear hc tD;cases hd:decide (sx < 2^n)
    ·rw [hd]at yC;have HD:=Qq hd;clear hd;have HE:=Qq (tM.out HD.out);go_wp2_with(go_at_call 115;refine(Iz n hn _).mono ?_;rintro e w3 ⟨rfl,rfl⟩);go_ret;exact⟨by rw [HC.out,HE.out] <;> rfl,HX.out⟩
    rw [hd]at yC;have HD:=Qq hd;clear hd;have HP:=Qq (zA.out HD.out);go_wp2_with(go_at_call 115;refine(Iz n hn _).mono ?_;rintro e w3 ⟨rfl,rfl⟩);go_roundw
    case rel=>exact⟨k+1,by go_num,by omega,Qq ⟨HX.out,HP.out⟩⟩
    case measure=>simp [intOf];omega
   obtain rfl:n=k:=by omega
   have HE:=Qq (show Zb l n=false from Es (by rw [zH];exact HJ.out));go_wp2_with fail;go_ret;exact⟨by rw [HC.out,HE.out] <;> rfl,HX.out⟩
 have vR:(64:Int) < (l.length:Int):=by omega
 have HC:=Qq (show Jw l.length l=2 by unfold Jw;rw [if_pos (by omega)]);go_enter Tryz.func113,Tryz.ntmps113;go_wp2_with fail;go_ret;exact⟨by rw [HC.out] <;> rfl,Qz⟩
theorem Qt3(g:Nat)(lb:Array Value)(eg:∀args w,(callFunc g args).run Tryz.prog w=.ok (.enter g args) w)(p:Nat->Bool)(v:Value)(l:List (Nat))(w:World)(h:Jb w v l)
 (hp:∀(W:World) (s:Nat),s∈l->Ext w W->Calls Tryz.prog g (#[.int .u64 (s:Int)]++lb) W fun e w'=>e=.returned (.bool (p s))/\Ext W w'):
 Calls Tryz.prog 217 #[v,.func (.func g) #[] lb] w fun e w'=>e=.returned (.int .i64 (Ny p l))/\Ext w w':=by
 obtain⟨A,c,rfl,xR,yO,HR⟩:=Vp h;unfold maxLen at yO;have HP:=Qq hp;clear h hp;go_enter Tryz.func217,Tryz.ntmps217;go_wp2_with fail;go_loopw [5,8] (fun _ i wr=>∃k:Nat,k<=l.length/\i=.int .i64 (k:Int)/\Hid (∀t∈l.take k,p t=false)/\Hid (Ext w wr)) (fun _ i _=>l.length - (intOf i).toNat)
 case atStart=>exact⟨0,Nat.zero_le _,rfl,Qq (by simp),Qq Qz⟩
 case round =>
  obtain⟨k,hk,rfl,tY,HX⟩:=hrel;by_cases hlt2:k < l.length
  ·obtain⟨s,hs⟩:∃s,l[k]?=some s:=⟨_,Qv hlt2⟩;obtain⟨ad,rfl,yT,xS⟩:=HR.out k hlt2;rw [Qk,hs,Option.getD_some]at xS;have a0:wr.cell? (ad.add k)=some (.int .u64 (s:Int)):=(HX.out.cell (p:=ad.add k) (Qj yT)).trans xS;clear xS;have HA:=Qq hs;have yP:(k:Int) < (l.length:Int):=by omega
   clear hs;cases vP:p s
   ·have HT:Hid (∀t∈l.take (k+1),p t=false):=Qq (by
     rw [Pw HA.out];intro t ht;rcases List.mem_append.1 ht with ht|ht
     ·exact tY.out t ht
     rw [List.mem_singleton.1 ht];exact vP)
    go_wp2_with(refine(HP.out _ s (Qxe HA.out) HX.out).mono ?_;rintro e w1 ⟨rfl,hx⟩;rw [vP]);go_roundw
    case rel=>exact⟨k+1,by omega,by go_num,HT,Qq (HX.out.trans hx)⟩
    case measure=>simp [intOf];omega
   have HE:=Qq (Hm (p:=p) HA.out vP tY.out);go_wp2_with(refine(HP.out _ s (Qxe HA.out) HX.out).mono ?_;rintro e w1 ⟨rfl,hx⟩;rw [vP]);go_ret;exact⟨by rw [HE.out] <;> rfl,HX.out.trans hx⟩
  obtain rfl:l.length=k:=by omega
  have HE:=Qq (Th (p:=p) (l:=l) (fun t ht=>tY.out t (by rw [List.take_of_length_le (Nat.le_refl _)];exact ht)));go_wp2_with fail;go_ret;exact⟨by rw [HE.out] <;> rfl,HX.out⟩
theorem Qfn(g:Nat)(lb:Array Value)(eg:∀args w,(callFunc g args).run Tryz.prog w=.ok (.enter g args) w)(p:Nat->Bool)(v:Value)(l:List (Nat))(w:World)(h:Jb w v l)
 (hp:∀(W:World) (s:Nat),s∈l->Ext w W->Calls Tryz.prog g (#[.int .u64 (s:Int)]++lb) W fun e w'=>e=.returned (.bool (p s))/\Ext W w'):
 Calls Tryz.prog 195 #[v,.func (.func g) #[] lb] w fun e w'=>e=.returned (.bool (l.any p))/\Ext w w':=by
 have HI:=Qq (Qt3 g lb eg p v l w h hp);have HE:=Qq (Hl p l);clear hp h;obtain⟨z,hz⟩:∃z,z=Ny p l:=⟨_,rfl⟩;rw [<-hz]at HI HE;clear hz;go_enter Tryz.func195,Tryz.ntmps195;go_wp2_with(refine HI.out.mono ?_;rintro e w1 ⟨rfl,hx⟩);go_ret;exact⟨by rw [<-HE.out] <;> rfl,hx⟩
theorem Qt2(g:Nat)(lb:Array Value)(eg:∀args w,(callFunc g args).run Tryz.prog w=.ok (.enter g args) w)(p:List Nat->Bool)(v:Value)(l:List (List Nat))(w:World)(h:Li w v l)
 (hp:∀(W:World) (u:Value) (s:List Nat),s∈l->Ext w W->Jb W u s->Calls Tryz.prog g (#[u]++lb) W fun e w'=>e=.returned (.bool (p s))/\Ext W w'):
 Calls Tryz.prog 163 #[v,.func (.func g) #[] lb] w fun e w'=>e=.returned (.int .i64 (Ny p l))/\Ext w w':=by
 obtain⟨A,c,rfl,xR,yO,HR⟩:=Ge h;unfold maxLen at yO;have HP:=Qq hp;clear h hp;go_enter Tryz.func163,Tryz.ntmps163;go_wp2_with fail;go_loopw [5,8] (fun _ i wr=>∃k:Nat,k<=l.length/\i=.int .i64 (k:Int)/\Hid (∀t∈l.take k,p t=false)/\Hid (Ext w wr)) (fun _ i _=>l.length - (intOf i).toNat)
 case atStart=>exact⟨0,Nat.zero_le _,rfl,Qq (by simp),Qq Qz⟩
 case round =>
  obtain⟨k,hk,rfl,tY,HX⟩:=hrel;by_cases hlt2:k < l.length
  ·obtain⟨s,hs⟩:∃s,l[k]?=some s:=⟨_,Qv hlt2⟩;obtain⟨ad,u,rfl,yT,hu,xS⟩:=HR.out k hlt2;rw [Qk,hs,Option.getD_some]at xS;have a0:wr.cell? (ad.add k)=some u:=(HX.out.cell (p:=ad.add k) (Qj yT)).trans hu;have HF:=Qq (show Jb w u s from xS);clear xS hu;have HA:=Qq hs;have yP:(k:Int) < (l.length:Int):=by omega
   clear hs;cases vP:p s
   ·have HT:Hid (∀t∈l.take (k+1),p t=false):=Qq (by
     rw [Pw HA.out];intro t ht;rcases List.mem_append.1 ht with ht|ht
     ·exact tY.out t ht
     rw [List.mem_singleton.1 ht];exact vP)
    go_wp2_with(refine(HP.out _ u s (Qxe HA.out) HX.out (HF.out.ext HX.out)).mono ?_;rintro e w1 ⟨rfl,hx⟩;rw [vP]);go_roundw
    case rel=>exact⟨k+1,by omega,by go_num,HT,Qq (HX.out.trans hx)⟩
    case measure=>simp [intOf];omega
   have HE:=Qq (Hm (p:=p) HA.out vP tY.out);go_wp2_with(refine(HP.out _ u s (Qxe HA.out) HX.out (HF.out.ext HX.out)).mono ?_;rintro e w1 ⟨rfl,hx⟩;rw [vP]);go_ret;exact⟨by rw [HE.out] <;> rfl,HX.out.trans hx⟩
  obtain rfl:l.length=k:=by omega
  have HE:=Qq (Th (p:=p) (l:=l) (fun t ht=>tY.out t (by rw [List.take_of_length_le (Nat.le_refl _)];exact ht)));go_wp2_with fail;go_ret;exact⟨by rw [HE.out] <;> rfl,HX.out⟩
theorem Ie(g:Nat)(lb:Array Value)(eg:∀args w,(callFunc g args).run Tryz.prog w=.ok (.enter g args) w)(p:List Nat->Bool)(v:Value)(l:List (List Nat))(w:World)(h:Li w v l)
 (hp:∀(W:World) (u:Value) (s:List Nat),s∈l->Ext w W->Jb W u s->Calls Tryz.prog g (#[u]++lb) W fun e w'=>e=.returned (.bool (p s))/\Ext W w'):
 Calls Tryz.prog 99 #[v,.func (.func g) #[] lb] w fun e w'=>e=.returned (.bool (l.any p))/\Ext w w':=by
 have HI:=Qq (Qt2 g lb eg p v l w h hp);have HE:=Qq (Hl p l);clear hp h;obtain⟨z,hz⟩:∃z,z=Ny p l:=⟨_,rfl⟩;rw [<-hz]at HI HE;clear hz;go_enter Tryz.func99,Tryz.ntmps99;go_wp2_with(refine HI.out.mono ?_;rintro e w1 ⟨rfl,hx⟩);go_ret;exact⟨by rw [<-HE.out] <;> rfl,hx⟩
theorem Qcl(B:Nat)(s n:Nat)(w:World)(hn:n<=64)(hs:Qp s)(hb:w.cell? ⟨B,0,none⟩=some (.int .i64 (n:Int))):
 Calls Tryz.prog 196 #[.int .u64 (s:Int),.pointer (some ⟨B,0,none⟩)] w fun e w'=>e=.returned (.bool (!decide (s < 2^n)))/\Ext w w':=by
 have HO:=Qq (Qjd (n:=n) hs hn);clear hs;go_enter Tryz.func196,Tryz.ntmps196;go_wp2_with(go_at_call 94;refine(Ij n hn _).mono ?_;rintro e w3 ⟨rfl,rfl⟩);go_ret;exact⟨by rw [<-HO.out] <;> rfl,Qz⟩
theorem Qcm(B:Nat)(v:Value)(l:List Nat)(n:Nat)(w:World)(h:Jb w v l)(hw:∀s∈l,Qp s)(hn:n<=64)(hB:B < w.heap.size)(hb:w.cell? ⟨B,0,none⟩=some (.int .i64 (n:Int))):
 Calls Tryz.prog 195 #[v,.func (.func 196) #[] #[.pointer (some ⟨B,0,none⟩)]] w fun e w'=>e=.returned (.bool (Zb l n))/\Ext w w':=by
 have eg:∀args w,(callFunc 196 args).run Tryz.prog w=.ok (.enter 196 args) w:=fun _ _=>rfl
 refine(Qfn 196 #[.pointer (some ⟨B,0,none⟩)] eg (fun s=> !decide (s < 2^n)) v l w h ?_).mono ?_
 ·intro W s hs hx;exact Qcl B s n W hn (hw s hs) ((hx.cell (p:=⟨B,0,none⟩) hB).trans hb)
 rintro e w1 ⟨rfl,hx⟩;exact⟨rfl,hx⟩
theorem Iy(v:Value)(l:List Nat)(n:Nat)(w:World)(h:Jb w v l)(hw:∀s∈l,Qp s)(hn:n<=64):
 Calls Tryz.prog 158 #[v,.int .i64 (n:Int)] w fun e w'=>e=.returned (.bool (Zb l n))/\Ext w w':=by
 have HL:=Qq h;have HW:=Qq hw;clear h hw;go_enter Tryz.func158,Tryz.ntmps158;go_wp2_with(go_at_call 195;refine(Qcm w.heap.size _ l n _ (HL.out.ext (by repeat(first|exact Qz|assumption|apply Ext.alloc|apply Ext.drew))) HW.out hn (by simp) (by simp)).mono ?_;rintro e w1 ⟨rfl,hx⟩;have HX:=Qq (((Ext.refl w).alloc _).trans hx);clear hx);go_ret;exact⟨rfl,HX.out⟩
theorem Qn8(B:Nat)(v:Value)(l:List Nat)(n:Nat)(w:World)(h:Jb w v l)(hw:∀s∈l,Qp s)(hn:n<=64)(_hB:B < w.heap.size)(hb:w.cell? ⟨B,0,none⟩=some (.int .i64 (n:Int))):
 Calls Tryz.prog 159 #[v,.pointer (some ⟨B,0,none⟩)] w fun e w'=>e=.returned (.bool (Zb l n))/\Ext w w':=by
 have HL:=Qq h;have HW:=Qq hw;clear h hw;go_enter Tryz.func159,Tryz.ntmps159;go_wp2_with(go_at_call 158;refine(Iy _ l n _ (HL.out.ext (by repeat(first|exact Qz|assumption|apply Ext.alloc|apply Ext.drew))) HW.out hn).mono ?_;rintro e w1 ⟨rfl,hx⟩;have HX:=Qq hx;clear hx);go_ret;exact⟨rfl,HX.out⟩
theorem Qyv(B:Nat)(v:Value)(rl:List (List Nat))(n:Nat)(w:World)(h:Li w v rl)(hw:∀r∈rl,∀s∈r,Qp s)(hn:n<=64)(hB:B < w.heap.size)(hb:w.cell? ⟨B,0,none⟩=some (.int .i64 (n:Int))):
 Calls Tryz.prog 99 #[v,.func (.func 159) #[] #[.pointer (some ⟨B,0,none⟩)]] w fun e w'=>e=.returned (.bool (rl.any fun r=>Zb r n))/\Ext w w':=by
 have eg:∀args w,(callFunc 159 args).run Tryz.prog w=.ok (.enter 159 args) w:=fun _ _=>rfl
 refine(Ie 159 #[.pointer (some ⟨B,0,none⟩)] eg (fun r=>Zb r n) v rl w h ?_).mono ?_
 ·intro W u s hs hx hu;exact Qn8 B u s n W hu (hw s hs) hn (Qy hB hx.size) ((hx.cell (p:=⟨B,0,none⟩) hB).trans hb)
 rintro e w1 ⟨rfl,hx⟩;exact⟨rfl,hx⟩
theorem Xs(v:Value)(md:Md)(w:World)(h:MdV w v md)(zO:md.ok):
 Calls Tryz.prog 93 #[v] w fun e w'=>e=.returned (.int .i64 (Zq md))/\Ext w w':=by
 obtain⟨vv,vr,rfl,hv,hr⟩:=h;have HV:=Qq hv;have bA:=Qq hr;have zD:=Qq zO;obtain⟨Av,cv,rfl,_⟩:=hv;obtain⟨Ar,cr,rfl,_,_,HR⟩:=Ge hr;obtain⟨z,hz⟩:∃z,z=md.n:=⟨_,rfl⟩;have HZ:=Qq hz;rw [<-hz];clear hr zO hz;by_cases h1:z < 1
 ·have HE:=Qq (show Zq md=2 by unfold Zq;rw [<-HZ.out,if_pos (.inl h1)]);go_enter Tryz.func93,Tryz.ntmps93;go_wp2_with fail;go_ret;exact⟨by rw [HE.out] <;> rfl,(by repeat(first|exact Qz|assumption|apply Ext.alloc|apply Ext.drew))⟩
 by_cases h2:64 < z
 ·have HE:=Qq (show Zq md=2 by unfold Zq;rw [<-HZ.out,if_pos (.inr h2)]);go_enter Tryz.func93,Tryz.ntmps93;go_wp2_with fail;go_ret;exact⟨by rw [HE.out] <;> rfl,(by repeat(first|exact Qz|assumption|apply Ext.alloc|apply Ext.drew))⟩
 by_cases h3:4 < md.rel.length
 ·have HE:=Qq (show Zq md=8 by unfold Zq;rw [<-HZ.out,if_neg (by omega),if_pos (.inl h3)]);have aO:(4:Int) < (md.rel.length:Int):=by omega
  clear h3;go_enter Tryz.func93,Tryz.ntmps93;go_wp2_with fail;go_ret;exact⟨by rw [HE.out] <;> rfl,(by repeat(first|exact Qz|assumption|apply Ext.alloc|apply Ext.drew))⟩
 by_cases h4:8 < md.val.length
 ·have HE:=Qq (show Zq md=8 by unfold Zq;rw [<-HZ.out,if_neg (by omega),if_pos (.inr h4)]);have VH:(8:Int) < (md.val.length:Int):=by omega
  have aO:¬(4:Int) < (md.rel.length:Int):=by omega
  clear h3 h4;go_enter Tryz.func93,Tryz.ntmps93;go_wp2_with fail;go_ret;exact⟨by rw [HE.out] <;> rfl,(by repeat(first|exact Qz|assumption|apply Ext.alloc|apply Ext.drew))⟩
 have VH:¬(8:Int) < (md.val.length:Int):=by omega
 have aO:¬(4:Int) < (md.rel.length:Int):=by omega
 obtain⟨n,hnz⟩:∃n:Nat,(n:Int)=z:=⟨z.toNat,by omega⟩;subst hnz;have yN:n<=64:=by omega
 have vR:0 < n:=by omega
 have HC:=Qq (show Zq md=if md.rel.any (fun r=> !decide (r.length=n))then 3 else if Zb md.val n then 2 else if md.rel.any (fun r=>Zb r n)then 2 else 0 by
  unfold Zq;rw [<-HZ.out,if_neg (by omega),if_neg (by omega),Int.toNat_natCast];simp only [Int.natCast_inj])
 obtain⟨rl,wC⟩:∃l,l=md.rel:=⟨_,rfl⟩;have rT:=Qq wC;rw [<-wC]at HR bA aO h3 HC;rw [<-wC];clear h1 h2 h4 wC;go_enter Tryz.func93,Tryz.ntmps93;go_wp2_with fail;go_loopw [26] (fun v wr=>∃k:Nat,v=.int .i64 (k:Int)/\k<=rl.length/\wr=w.alloc (.cells #[.int .i64 (n:Int),.slice Av md.val.length cv,.slice Ar rl.length cr] 26)/\Hid (∀j,j < k->decide ((rl.getD j []).length=n)=true)) (fun v _=>rl.length - (intOf v).toNat)
 case atStart=>exact⟨0,rfl,Nat.zero_le _,rfl,Qq fun j hj=>absurd hj (by omega)⟩
 case round =>
  obtain⟨k,rfl,hk,rfl,HJ⟩:=hrel;by_cases hlt2:k < rl.length
  ·have yP:(k:Int) < (rl.length:Int):=by omega
   obtain⟨ad,u,rfl,yT,hu,xS⟩:=HR.out k hlt2;obtain⟨Au,cu,rfl,_⟩:=xS;have a0:=(((Ext.refl w).alloc (.cells #[.int .i64 (n:Int),.slice Av md.val.length cv,.slice (some ad) rl.length cr] 26)).cell (p:=ad.add k) (Qj yT)).trans hu;clear hu;obtain⟨q,hq⟩:∃q,q=(rl.getD k []).length:=⟨_,rfl⟩;have zA:=Qq (show decide (q=n)=true->∀j,j < k+1->decide ((rl.getD j []).length=n)=true from fun h=>Dg (P:=fun j=>decide ((rl.getD j []).length=n)=true) HJ.out (by rw [<-hq];exact h));have tM:=Qq (show decide (q=n)=false->rl.any (fun r=> !decide (r.length=n))=true from fun h=>Qyt hlt2 (by rw [<-hq,h];rfl));rw [<-hq]at a0
   clear hq;by_cases hd:q=n
   ·have HP:=Qq (zA.out (decide_eq_true hd));subst hd;have zQ:((q:Int) !=(q:Int))=false:=by simp
    go_wp2_with fail;go_roundw
    case rel=>exact⟨k+1,by go_num,by omega,by first|trivial|rfl,HP⟩
    case measure=>simp [intOf];omega
   have HE:=Qq (show Zq md=3 by rw [HC.out,if_pos (tM.out (decide_eq_false hd))]);have zQ:((q:Int) !=(n:Int))=true:=by simp only [bne_iff_ne,ne_eq,Int.natCast_inj];exact hd
   go_wp2_with fail;go_ret;exact⟨by rw [HE.out] <;> rfl,(by repeat(first|exact Qz|assumption|apply Ext.alloc|apply Ext.drew))⟩
  obtain rfl:rl.length=k:=by omega
  have pS:=Qq (show Zq md=if Zb md.val n then 2 else if rl.any (fun r=>Zb r n)then 2 else 0 by
   rw [HC.out,if_neg (by rw [Qqk (P:=fun r=> !decide (r.length=n)) (fun j hj=>by rw [HJ.out j hj];rfl)];simp)])
  clear HC HJ;have sF:(w.alloc (.cells #[.int .i64 (n:Int),.slice Av md.val.length cv,.slice Ar rl.length cr] 26)).cell? ⟨w.heap.size,0,none⟩=some (.int .i64 (n:Int)):=by simp
  have QU:=Qq sF;clear sF;go_upto_region 11 with(fail);cases hb:Zb md.val n
  ·have HB:=Qq hb;cases ha:rl.any (fun r=>Zb r n)
   ·have HE:=Qq (show Zq md=0 by rw [pS.out,HB.out,ha];rfl);have HA:=Qq ha;clear ha hb;go_wp2_with(first|(go_at_call 158;refine(Iy _ md.val n _ (HV.out.ext (by repeat(first|exact Qz|assumption|apply Ext.alloc|apply Ext.drew))) zD.out.val yN).mono ?_;rintro e w1 ⟨rfl,hx⟩;rw [HB.out];have HX:=Qq (((Ext.refl w).alloc _).trans hx);have zL:=Qq hx;have tO:w1.cell? ⟨w.heap.size,2,none⟩=some (.slice Ar rl.length cr):=(hx.cell (p:=⟨w.heap.size,2,none⟩) (by simp)).trans (by simp);clear hx)|(go_at_call 99;refine(Qyv w.heap.size _ rl n _ (bA.out.ext HX.out) (by rw [rT.out];exact zD.out.rel) yN (Qy (by simp) zL.out.size) ((zL.out.cell (p:=⟨w.heap.size,0,none⟩) (by simp)).trans QU.out)).mono ?_;rintro e w2 ⟨rfl,hx⟩;rw [HA.out];have zR:=Qq hx;clear hx))
    go_ret;exact⟨by rw [HE.out] <;> rfl,HX.out.trans zR.out⟩
   have HE:=Qq (show Zq md=2 by rw [pS.out,HB.out,ha];rfl);have HA:=Qq ha;clear ha hb;go_wp2_with(first|(go_at_call 158;refine(Iy _ md.val n _ (HV.out.ext (by repeat(first|exact Qz|assumption|apply Ext.alloc|apply Ext.drew))) zD.out.val yN).mono ?_;rintro e w1 ⟨rfl,hx⟩;rw [HB.out];have HX:=Qq (((Ext.refl w).alloc _).trans hx);have zL:=Qq hx;have tO:w1.cell? ⟨w.heap.size,2,none⟩=some (.slice Ar rl.length cr):=(hx.cell (p:=⟨w.heap.size,2,none⟩) (by simp)).trans (by simp);clear hx)|(go_at_call 99;refine(Qyv w.heap.size _ rl n _ (bA.out.ext HX.out) (by rw [rT.out];exact zD.out.rel) yN (Qy (by simp) zL.out.size) ((zL.out.cell (p:=⟨w.heap.size,0,none⟩) (by simp)).trans QU.out)).mono ?_;rintro e w2 ⟨rfl,hx⟩;rw [HA.out];have zR:=Qq hx;clear hx))
   go_ret;exact⟨by rw [HE.out] <;> rfl,HX.out.trans zR.out⟩
  have HE:=Qq (show Zq md=2 by rw [pS.out,hb];rfl);have HB:=Qq hb;clear hb;go_wp2_with(go_at_call 158;refine(Iy _ md.val n _ (HV.out.ext (by repeat(first|exact Qz|assumption|apply Ext.alloc|apply Ext.drew))) zD.out.val yN).mono ?_;rintro e w1 ⟨rfl,hx⟩;rw [HB.out];have HX:=Qq (((Ext.refl w).alloc _).trans hx);clear hx);go_ret;exact⟨by rw [HE.out] <;> rfl,HX.out⟩
end Go.Proofs.YtkmclcmnoicagaaGreatDoor
