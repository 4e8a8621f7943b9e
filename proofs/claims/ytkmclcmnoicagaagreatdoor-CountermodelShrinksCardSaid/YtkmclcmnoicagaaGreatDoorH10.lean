/- A formula that fits: the checker's set is where it holds. Plain. -/
import Derived.Test.YtkmclcmnoicagaaGreatDoorH09
namespace Go.Proofs.YtkmclcmnoicagaaGreatDoor
set_option maxRecDepth 100000
set_option maxHeartbeats 128000000
open Go.RowKit
theorem Qcm {n:Nd}(h:Ze n)(h1:11<=n.op)(h2:n.op<=13):1<=n.g:=by
 obtain⟨_,_,h3,_,_⟩:=h;unfold Ya at h3;rcases(show n.op=11\/n.op=12\/n.op=13 by omega)with ho|ho|ho <;>(rw [ho]at h3;simp [Ql,Zo,Zb,Zd,Zm]at h3;omega)
theorem Qep {md:Md} {f:List Nd}(zU:Qa md=0)(hc:check f=0):∀k,k < f.length->
 (Lc md f (Jg md f k).1 (Jg md f k).2 k).2=true->Fp md (Lc md f (Jg md f k).1 (Jg md f k).2 k).1 (tr f k):=by
 intro k
 induction k using Nat.strongRecOn with
 |_ k ih =>
  intro hk mV;obtain⟨n,hn⟩:∃n,f[k]?=some n:=⟨_,Qv hk⟩;have hm:=List.mem_of_getElem? hn;have hh:=Rh hc n hm;obtain⟨hx,hy⟩:=Yt hc k n hn;unfold Lc at mV⊢;rw [Qkz hn]at mV⊢;by_cases ho:okP n (Jg md f k).2=true
  ·rw [if_pos ho]at mV⊢;have TA:Jv md n=true:=mV;have xI:=Qd2 TA;rw [Xd (Yt hc) hn];show Fp md (Vb md n _ _) _;unfold Vb;rw [if_pos TA];unfold okP at ho;rw [Bool.and_eq_true]at ho;refine Qfm zU (Qem hh TA (fun h h'=>Qcm hh h h')) (fun h=> ?_) (fun h=> ?_)
   ·have hb:=hx h;have h4:4<=n.op:=by unfold Zq at h;rw [Bool.and_eq_true]at h;exact of_decide_eq_true h.1
    have h5:=ho.1;rw [decide_eq_true h4,Bool.not_true,Bool.false_or]at h5;rw [(Sy md f k _ (by omega)).1];rw [(Sy md f k _ (by omega)).2]at h5;exact ih _ (by omega) (by omega) h5
   have hb:=hy h;have h58:((decide (5<=n.op)&&decide (n.op<=8))||n.op==13)=true:=by
    unfold Qw at h;simp only [Bool.or_eq_true,Bool.and_eq_true,decide_eq_true_eq,beq_iff_eq]at h⊢;omega
   have h5:=ho.2;rw [h58,Bool.not_true,Bool.false_or]at h5;rw [(Sy md f k _ (by omega)).1];rw [(Sy md f k _ (by omega)).2]at h5;exact ih _ (by omega) (by omega) h5
  rw [if_neg ho]at mV;cases mV
theorem We {md:Md} {f:List Nd}(h:Jz md f=0):Fp md (Nc md f) (Qh f):=by
 obtain⟨zU,hc,_,_⟩:=Vm h;have hp:=(Jf hc).1;unfold Nc;rw [(Sy md f f.length (f.length - 1) (by omega)).1];refine Qep zU hc (f.length - 1) (by omega) ?_;rw [Qcv hc _ (by omega)];exact Qa8 h
def Np {α:Type}(p:α->Bool)(l:List α):Int:=match l.findIdx? p with|none=> -1|some j=>j
theorem Wm {α:Type} {p:α->Bool} {l:List α} {k:Nat} {s:α}(h:l[k]?=some s)(hp:p s=true)(hn:∀t∈l.take k,p t=false):Np p l=(k:Int):=by
 have:l.findIdx? p=some k:=by
  induction l generalizing k with
  |nil=>simp at h
  |cons a r ih =>
   cases k with
   |zero =>
    simp only [List.getElem?_cons_zero,Option.some.injEq]at h;subst h;rw [List.findIdx?_cons,hp];rfl
   |succ k =>
    have ha:p a=false:=hn a (by simp);rw [List.findIdx?_cons,ha,ih (k:=k) (by simpa using h) (fun t ht=>hn t (by simp [ht]))];rfl
 unfold Np;rw [this]
theorem Lo {α:Type} {p:α->Bool} {l:List α}(hn:∀t∈l,p t=false):Np p l= -1:=by
 have:l.findIdx? p=none:=by
  induction l with
  |nil=>simp
  |cons a r ih=>rw [List.findIdx?_cons,hn a (by simp),ih (fun t ht=>hn t (by simp [ht]))];rfl
 unfold Np;rw [this]
theorem Wl {α:Type}(p:α->Bool)(l:List α):decide (0<=Np p l)=l.any p:=by
 by_cases h:∃t∈l,p t=true
 ·obtain⟨t,ht,hp⟩:=h;have e:∃j,l.findIdx? p=some j:=by
   cases hj:l.findIdx? p with
   |some j=>exact⟨j,rfl⟩
   |none=>exact absurd hp (by rw [List.findIdx?_eq_none_iff.1 hj t ht];simp)
  obtain⟨j,hj⟩:=e;rw [show l.any p=true from List.any_eq_true.2 ⟨t,ht,hp⟩];unfold Np;rw [hj];exact decide_eq_true (Int.natCast_nonneg j)
 have hn:∀t∈l,p t=false:=fun t ht=>by
  cases e:p t
  ·rfl
  exact absurd ⟨t,ht,e⟩ h
 rw [Lo hn,show l.any p=false from List.any_eq_false.2 (fun t ht=>by rw [hn t ht];simp)];rfl
theorem Hw {α:Type} {l:List α} {k:Nat} {s:α}(h:l[k]?=some s):l.take (k+1)=l.take k++ [s]:=by
 rw [List.take_add_one,h];rfl
theorem Qga {α:Type} {l:List α} {k:Nat} {s:α}(h:l[k]?=some s):s∈l:=List.mem_of_getElem? h
theorem Qr0(g:Nat)(lb:Array Value)(eg:∀args w,(callFunc g args).run Tryz.prog w=.ok (.enter g args) w)(p:Int->Bool)(v:Value)(l:List (Int))(w:World)(h:Dn w v l)
 (hp:∀(W:World) (s:Int),s∈l->Qg w W->Calls Tryz.prog g (#[.int .i64 s]++lb) W fun e w'=>e=.returned (.bool (p s))/\Qg W w'):
 Calls Tryz.prog 198 #[v,.func (.func g) #[] lb] w fun e w'=>e=.returned (.int .i64 (Np p l))/\Qg w w':=by
 obtain⟨A,c,rfl,xR,yN,hr⟩:=h;have HR:=Qq hr;clear hr;unfold maxLen at yN;have HP:=Qq hp;clear hp;go_enter Tryz.func198,Tryz.ntmps198;go_wp2_with fail;go_loopw [5,8] (fun _ i wr=>∃k:Nat,k<=l.length/\i=.int .i64 (k:Int)/\Hid (∀t∈l.take k,p t=false)/\Hid (Qg w wr)) (fun _ i _=>l.length - (intOf i).toNat)
 case atStart=>exact⟨0,Nat.zero_le _,rfl,Qq (by simp),Qq Qz⟩
 case round =>
  obtain⟨k,hk,rfl,tP,HX⟩:=hrel;by_cases hlt2:k < l.length
  ·obtain⟨s,hs⟩:∃s,l[k]?=some s:=⟨_,Qv hlt2⟩;obtain⟨ad,rfl,yS,uG⟩:=HR.out (by intro e;rw [e]at hlt2;simp at hlt2);have a0:wr.cell? (ad.add k)=some (.int .i64 s):=(HX.out.cell (p:=ad.add k) (Qj yS)).trans (uG k s hs);clear uG;have HA:=Qq hs;have yV:(k:Int) < (l.length:Int):=by omega
   clear hs;cases vF:p s
   ·have HT:Hid (∀t∈l.take (k+1),p t=false):=Qq (by
     rw [Hw HA.out];intro t ht;rcases List.mem_append.1 ht with ht|ht
     ·exact tP.out t ht
     rw [List.mem_singleton.1 ht];exact vF)
    go_wp2_with(refine(HP.out _ s (Qga HA.out) HX.out).mono ?_;rintro e w1 ⟨rfl,hx⟩;rw [vF]);go_roundw
    case rel=>exact⟨k+1,by omega,by go_num,HT,Qq (HX.out.trans hx)⟩
    case measure=>simp [intOf];omega
   have HE:=Qq (Wm (p:=p) HA.out vF tP.out);go_wp2_with(refine(HP.out _ s (Qga HA.out) HX.out).mono ?_;rintro e w1 ⟨rfl,hx⟩;rw [vF]);go_ret;exact⟨by rw [HE.out] <;> rfl,HX.out.trans hx⟩
  obtain rfl:l.length=k:=by omega
  have HE:=Qq (Lo (p:=p) (l:=l) (fun t ht=>tP.out t (by rw [List.take_of_length_le (Nat.le_refl _)];exact ht)));go_wp2_with fail;go_ret;exact⟨by rw [HE.out] <;> rfl,HX.out⟩
theorem Qgr(g:Nat)(lb:Array Value)(eg:∀args w,(callFunc g args).run Tryz.prog w=.ok (.enter g args) w)(p:Int->Bool)(v:Value)(l:List (Int))(w:World)(h:Dn w v l)
 (hp:∀(W:World) (s:Int),s∈l->Qg w W->Calls Tryz.prog g (#[.int .i64 s]++lb) W fun e w'=>e=.returned (.bool (p s))/\Qg W w'):
 Calls Tryz.prog 164 #[v,.func (.func g) #[] lb] w fun e w'=>e=.returned (.bool (l.any p))/\Qg w w':=by
 have HI:=Qq (Qr0 g lb eg p v l w h hp);have HE:=Qq (Wl p l);clear hp h;obtain⟨z,hz⟩:∃z,z=Np p l:=⟨_,rfl⟩;rw [<-hz]at HI HE;clear hz;go_enter Tryz.func164,Tryz.ntmps164;go_wp2_with(refine HI.out.mono ?_;rintro e w1 ⟨rfl,hx⟩);go_ret;exact⟨by rw [<-HE.out] <;> rfl,hx⟩
theorem Lk(w:World)(l:List Int)(t:TypeId)(hl:l.length<=10):Dn (w.alloc (.cells (l.map (Value.int .i64)).toArray t)) (.slice (some ⟨w.heap.size,0,none⟩) l.length l.length) l:=by
 refine⟨_,_,rfl,Nat.le_refl _,by unfold maxLen;omega,fun _=>⟨_,rfl,by simp,fun k z hk=> ?_⟩⟩;have h1:=heap_alloc_new w (.cells (l.map (Value.int .i64)).toArray t);rw [Fo];have h2:(w.alloc (.cells (l.map (Value.int .i64)).toArray t)).heap[w.heap.size]?=some (Obj.cells (l.map (Value.int .i64)).toArray t (0,0)):=h1;simp only [World.cell?,h2];rw [List.getElem?_toArray,List.getElem?_map,hk];rfl
theorem Hr(lg:Int)(w:World):
 Calls Tryz.prog 98 #[.int .i64 lg] w fun e w'=>∃v,e=.returned (.tuple #[v,.int .i64 (Is lg)])/\Qg w w'/\Hid (Is lg=0->Dn w' v (Gd lg)):=by
 by_cases hc:0<=lg/\lg<=6
 ·have yU:lg=0\/lg=1\/lg=2\/lg=3\/lg=4\/lg=5\/lg=6:=by omega
  clear hc;rcases yU with rfl|rfl|rfl|rfl|rfl|rfl|rfl
  all_goals
   go_enter Tryz.func98,Tryz.ntmps98;go_wp2_with fail;go_ret2
   first
   |exact⟨_,rfl,Qz,Qq fun _=>Dn.none_ _⟩
   |exact⟨_,rfl,Qz.alloc _,Qq fun _=>Lk w [1] _ (by decide)⟩
   |exact⟨_,rfl,Qz.alloc _,Qq fun _=>Lk w [2] _ (by decide)⟩
   |exact⟨_,rfl,Qz.alloc _,Qq fun _=>Lk w [4] _ (by decide)⟩
   |exact⟨_,rfl,Qz.alloc _,Qq fun _=>Lk w [2,4] _ (by decide)⟩
   |exact⟨_,rfl,Qz.alloc _,Qq fun _=>Lk w [1,4,5] _ (by decide)⟩
   |exact⟨_,rfl,Qz.alloc _,Qq fun _=>Lk w [2,4,5] _ (by decide)⟩
 have h0:(lg==0)=false:=by rw [beq_eq_false_iff_ne];omega
 have h1:(lg==1)=false:=by rw [beq_eq_false_iff_ne];omega
 have h2:(lg==2)=false:=by rw [beq_eq_false_iff_ne];omega
 have h3:(lg==3)=false:=by rw [beq_eq_false_iff_ne];omega
 have h4:(lg==4)=false:=by rw [beq_eq_false_iff_ne];omega
 have h5:(lg==5)=false:=by rw [beq_eq_false_iff_ne];omega
 have h6:(lg==6)=false:=by rw [beq_eq_false_iff_ne];omega
 have HC:=Qq (show Is lg=1 from if_neg hc);clear hc;go_enter Tryz.func98,Tryz.ntmps98;go_wp2_with fail;go_ret2;exact⟨_,by rw [HC.out] <;> rfl,Qz,Qq fun e=>by rw [HC.out]at e;cases e⟩
theorem Qq6(n:Nat)(h:n<=64)(w:World):Calls Tryz.prog 115 #[.int .i64 (n:Int)] w fun e w'=>e=.returned (.int .u64 ((Zk n:Nat):Int))/\w=w':=by
 by_cases uH:n=64
 ·subst uH;go_enter Tryz.func115,Tryz.ntmps115;go_wp2_with fail;go_ret;exact⟨rfl,rfl⟩
 have hn:n < 64:=by omega
 have wU:¬(64:Int)<=(n:Int):=by omega
 have vV:min n 64=n:=by omega
 have HW:=Qq (Th hn);clear uH h;go_enter Tryz.func115,Tryz.ntmps115;go_wp2_with fail;go_ret;exact⟨by rw [<-show((2^n - 1:Nat):Int)=((Zk n:Nat):Int)from rfl,<-HW.out] <;> rfl,rfl⟩
theorem Qq7(n:Nat)(h:n<=64)(w:World):Calls Tryz.prog 94 #[.int .i64 (n:Int)] w fun e w'=>e=.returned (.int .u64 ((Zk n:Nat):Int))/\w=w':=by
 by_cases uH:n=64
 ·subst uH;go_enter Tryz.func94,Tryz.ntmps94;go_wp2_with fail;go_ret;exact⟨rfl,rfl⟩
 have hn:n < 64:=by omega
 have wU:¬(64:Int)<=(n:Int):=by omega
 have vV:min n 64=n:=by omega
 have HW:=Qq (Th hn);clear uH h;go_enter Tryz.func94,Tryz.ntmps94;go_wp2_with fail;go_ret;exact⟨by rw [<-show((2^n - 1:Nat):Int)=((Zk n:Nat):Int)from rfl,<-HW.out] <;> rfl,rfl⟩
theorem Gb(v:Value)(l:List Nat)(w:World)(h:Jn w v l)(hw:∀s∈l,Qm s):
 Calls Tryz.prog 113 #[.int .i64 (l.length:Int),v] w fun e w'=>e=.returned (.int .i64 (Jo l.length l))/\Qg w w':=by
 obtain⟨A,c,rfl,QE,xY,HL⟩:=Vf h;have rV:=Qq hw;unfold maxLen at xY;clear h hw;by_cases hn:l.length<=64
 ·have wU:¬(64:Int) < (l.length:Int):=by omega
  have HC:=Qq (show Jo l.length l=if Zn l l.length then 1 else 0 by unfold Jo;rw [if_neg (by omega),if_neg (by simp)];rfl);obtain⟨n,zQ⟩:∃n,n=l.length:=⟨_,rfl⟩;have HN:=Qq zQ;rw [<-zQ]at HC hn;rw [<-zQ];have YR:¬(64:Int) < (n:Int):=by omega
  have gL:((n:Int) !=(n:Int))=false:=by simp
  have zG:l.length=n:=zQ.symm;clear zQ wU;go_enter Tryz.func113,Tryz.ntmps113;go_wp2_with fail;go_loopw [19] (fun v wr=>∃k:Nat,v=.int .i64 (k:Int)/\k<=n/\Hid (Qg w wr/\∀j,j < k->decide (l.getD j 0 < 2^n)=true)) (fun v _=>n - (intOf v).toNat)
  case atStart=>exact⟨0,rfl,Nat.zero_le _,Qq ⟨Qz,fun j hj=>absurd hj (by omega)⟩⟩
  case round =>
   obtain⟨k,rfl,hk,zY⟩:=hrel;have HX:=Qq zY.out.1;have HJ:=Qq zY.out.2;clear zY;by_cases hlt2:k < n
   ·have yV:(k:Int) < (n:Int):=by omega
    obtain⟨ad,rfl,zV,hc⟩:=HL.out k (by omega);have a0:=(HX.out.cell (p:=ad.add k) (Qj zV)).trans hc;have al:(ad.add k).block < wr.heap.size:=by rw [Qr];exact Qy zV HX.out.size
    have zD:=Qq (show decide (l.getD k 0 < 2^n)=true->∀j,j < k+1->decide (l.getD j 0 < 2^n)=true from fun h=>Do (P:=fun j=>decide (l.getD j 0 < 2^n)=true) HJ.out h);have sX:=Qq (show decide (l.getD k 0 < 2^n)=false->Zn l n=true from Qqy (by omega));have yF:=Qy1 (n:=n) (Yx rV.out k) hn;obtain⟨sx,sQ⟩:∃s,s=l.getD k 0:=⟨_,rfl⟩;rw [<-sQ]at a0 yF zD sX;clear hc sQ;cases hd:decide (sx < 2^n)
    ·rw [hd]at yF;have HD:=Qq hd;clear hd;have HE:=Qq (sX.out HD.out);go_wp2_with(go_at_call 115;refine(Qq6 n hn _).mono ?_;rintro e w3 ⟨rfl,rfl⟩);go_ret;exact⟨by rw [HC.out,HE.out] <;> rfl,HX.out⟩
    rw [hd]at yF;have HD:=Qq hd;clear hd;have HP:=Qq (zD.out HD.out);go_wp2_with(go_at_call 115;refine(Qq6 n hn _).mono ?_;rintro e w3 ⟨rfl,rfl⟩);go_roundw
    case rel=>exact⟨k+1,by go_num,by omega,Qq ⟨HX.out,HP.out⟩⟩
    case measure=>simp [intOf];omega
   obtain rfl:n=k:=by omega
   have HE:=Qq (show Zn l n=false from Om (by rw [zG];exact HJ.out));go_wp2_with fail;go_ret;exact⟨by rw [HC.out,HE.out] <;> rfl,HX.out⟩
 have wU:(64:Int) < (l.length:Int):=by omega
 have HC:=Qq (show Jo l.length l=2 by unfold Jo;rw [if_pos (by omega)]);go_enter Tryz.func113,Tryz.ntmps113;go_wp2_with fail;go_ret;exact⟨by rw [HC.out] <;> rfl,Qz⟩
theorem Ql6(g:Nat)(lb:Array Value)(eg:∀args w,(callFunc g args).run Tryz.prog w=.ok (.enter g args) w)(p:Nat->Bool)(v:Value)(l:List (Nat))(w:World)(h:Jn w v l)
 (hp:∀(W:World) (s:Nat),s∈l->Qg w W->Calls Tryz.prog g (#[.int .u64 (s:Int)]++lb) W fun e w'=>e=.returned (.bool (p s))/\Qg W w'):
 Calls Tryz.prog 217 #[v,.func (.func g) #[] lb] w fun e w'=>e=.returned (.int .i64 (Np p l))/\Qg w w':=by
 obtain⟨A,c,rfl,xR,yN,HR⟩:=Vf h;unfold maxLen at yN;have HP:=Qq hp;clear h hp;go_enter Tryz.func217,Tryz.ntmps217;go_wp2_with fail;go_loopw [5,8] (fun _ i wr=>∃k:Nat,k<=l.length/\i=.int .i64 (k:Int)/\Hid (∀t∈l.take k,p t=false)/\Hid (Qg w wr)) (fun _ i _=>l.length - (intOf i).toNat)
 case atStart=>exact⟨0,Nat.zero_le _,rfl,Qq (by simp),Qq Qz⟩
 case round =>
  obtain⟨k,hk,rfl,tP,HX⟩:=hrel;by_cases hlt2:k < l.length
  ·obtain⟨s,hs⟩:∃s,l[k]?=some s:=⟨_,Qv hlt2⟩;obtain⟨ad,rfl,yS,xV⟩:=HR.out k hlt2;rw [Qk,hs,Option.getD_some]at xV;have a0:wr.cell? (ad.add k)=some (.int .u64 (s:Int)):=(HX.out.cell (p:=ad.add k) (Qj yS)).trans xV;clear xV;have HA:=Qq hs;have yV:(k:Int) < (l.length:Int):=by omega
   clear hs;cases vF:p s
   ·have HT:Hid (∀t∈l.take (k+1),p t=false):=Qq (by
     rw [Hw HA.out];intro t ht;rcases List.mem_append.1 ht with ht|ht
     ·exact tP.out t ht
     rw [List.mem_singleton.1 ht];exact vF)
    go_wp2_with(refine(HP.out _ s (Qga HA.out) HX.out).mono ?_;rintro e w1 ⟨rfl,hx⟩;rw [vF]);go_roundw
    case rel=>exact⟨k+1,by omega,by go_num,HT,Qq (HX.out.trans hx)⟩
    case measure=>simp [intOf];omega
   have HE:=Qq (Wm (p:=p) HA.out vF tP.out);go_wp2_with(refine(HP.out _ s (Qga HA.out) HX.out).mono ?_;rintro e w1 ⟨rfl,hx⟩;rw [vF]);go_ret;exact⟨by rw [HE.out] <;> rfl,HX.out.trans hx⟩
  obtain rfl:l.length=k:=by omega
  have HE:=Qq (Lo (p:=p) (l:=l) (fun t ht=>tP.out t (by rw [List.take_of_length_le (Nat.le_refl _)];exact ht)));go_wp2_with fail;go_ret;exact⟨by rw [HE.out] <;> rfl,HX.out⟩
theorem Qbl(g:Nat)(lb:Array Value)(eg:∀args w,(callFunc g args).run Tryz.prog w=.ok (.enter g args) w)(p:Nat->Bool)(v:Value)(l:List (Nat))(w:World)(h:Jn w v l)
 (hp:∀(W:World) (s:Nat),s∈l->Qg w W->Calls Tryz.prog g (#[.int .u64 (s:Int)]++lb) W fun e w'=>e=.returned (.bool (p s))/\Qg W w'):
 Calls Tryz.prog 195 #[v,.func (.func g) #[] lb] w fun e w'=>e=.returned (.bool (l.any p))/\Qg w w':=by
 have HI:=Qq (Ql6 g lb eg p v l w h hp);have HE:=Qq (Wl p l);clear hp h;obtain⟨z,hz⟩:∃z,z=Np p l:=⟨_,rfl⟩;rw [<-hz]at HI HE;clear hz;go_enter Tryz.func195,Tryz.ntmps195;go_wp2_with(refine HI.out.mono ?_;rintro e w1 ⟨rfl,hx⟩);go_ret;exact⟨by rw [<-HE.out] <;> rfl,hx⟩
theorem Ql5(g:Nat)(lb:Array Value)(eg:∀args w,(callFunc g args).run Tryz.prog w=.ok (.enter g args) w)(p:List Nat->Bool)(v:Value)(l:List (List Nat))(w:World)(h:Px w v l)
 (hp:∀(W:World) (u:Value) (s:List Nat),s∈l->Qg w W->Jn W u s->Calls Tryz.prog g (#[u]++lb) W fun e w'=>e=.returned (.bool (p s))/\Qg W w'):
 Calls Tryz.prog 163 #[v,.func (.func g) #[] lb] w fun e w'=>e=.returned (.int .i64 (Np p l))/\Qg w w':=by
 obtain⟨A,c,rfl,xR,yN,HR⟩:=Gj h;unfold maxLen at yN;have HP:=Qq hp;clear h hp;go_enter Tryz.func163,Tryz.ntmps163;go_wp2_with fail;go_loopw [5,8] (fun _ i wr=>∃k:Nat,k<=l.length/\i=.int .i64 (k:Int)/\Hid (∀t∈l.take k,p t=false)/\Hid (Qg w wr)) (fun _ i _=>l.length - (intOf i).toNat)
 case atStart=>exact⟨0,Nat.zero_le _,rfl,Qq (by simp),Qq Qz⟩
 case round =>
  obtain⟨k,hk,rfl,tP,HX⟩:=hrel;by_cases hlt2:k < l.length
  ·obtain⟨s,hs⟩:∃s,l[k]?=some s:=⟨_,Qv hlt2⟩;obtain⟨ad,u,rfl,yS,hu,xV⟩:=HR.out k hlt2;rw [Qk,hs,Option.getD_some]at xV;have a0:wr.cell? (ad.add k)=some u:=(HX.out.cell (p:=ad.add k) (Qj yS)).trans hu;have HF:=Qq (show Jn w u s from xV);clear xV hu;have HA:=Qq hs;have yV:(k:Int) < (l.length:Int):=by omega
   clear hs;cases vF:p s
   ·have HT:Hid (∀t∈l.take (k+1),p t=false):=Qq (by
     rw [Hw HA.out];intro t ht;rcases List.mem_append.1 ht with ht|ht
     ·exact tP.out t ht
     rw [List.mem_singleton.1 ht];exact vF)
    go_wp2_with(refine(HP.out _ u s (Qga HA.out) HX.out (HF.out.ext HX.out)).mono ?_;rintro e w1 ⟨rfl,hx⟩;rw [vF]);go_roundw
    case rel=>exact⟨k+1,by omega,by go_num,HT,Qq (HX.out.trans hx)⟩
    case measure=>simp [intOf];omega
   have HE:=Qq (Wm (p:=p) HA.out vF tP.out);go_wp2_with(refine(HP.out _ u s (Qga HA.out) HX.out (HF.out.ext HX.out)).mono ?_;rintro e w1 ⟨rfl,hx⟩;rw [vF]);go_ret;exact⟨by rw [HE.out] <;> rfl,HX.out.trans hx⟩
  obtain rfl:l.length=k:=by omega
  have HE:=Qq (Lo (p:=p) (l:=l) (fun t ht=>tP.out t (by rw [List.take_of_length_le (Nat.le_refl _)];exact ht)));go_wp2_with fail;go_ret;exact⟨by rw [HE.out] <;> rfl,HX.out⟩
theorem Qzl(g:Nat)(lb:Array Value)(eg:∀args w,(callFunc g args).run Tryz.prog w=.ok (.enter g args) w)(p:List Nat->Bool)(v:Value)(l:List (List Nat))(w:World)(h:Px w v l)
 (hp:∀(W:World) (u:Value) (s:List Nat),s∈l->Qg w W->Jn W u s->Calls Tryz.prog g (#[u]++lb) W fun e w'=>e=.returned (.bool (p s))/\Qg W w'):
 Calls Tryz.prog 99 #[v,.func (.func g) #[] lb] w fun e w'=>e=.returned (.bool (l.any p))/\Qg w w':=by
 have HI:=Qq (Ql5 g lb eg p v l w h hp);have HE:=Qq (Wl p l);clear hp h;obtain⟨z,hz⟩:∃z,z=Np p l:=⟨_,rfl⟩;rw [<-hz]at HI HE;clear hz;go_enter Tryz.func99,Tryz.ntmps99;go_wp2_with(refine HI.out.mono ?_;rintro e w1 ⟨rfl,hx⟩);go_ret;exact⟨by rw [<-HE.out] <;> rfl,hx⟩
theorem Qhe(B:Nat)(s n:Nat)(w:World)(hn:n<=64)(hs:Qm s)(hb:w.cell? ⟨B,0,none⟩=some (.int .i64 (n:Int))):
 Calls Tryz.prog 196 #[.int .u64 (s:Int),.pointer (some ⟨B,0,none⟩)] w fun e w'=>e=.returned (.bool (!decide (s < 2^n)))/\Qg w w':=by
 have HO:=Qq (Qy1 (n:=n) hs hn);clear hs;go_enter Tryz.func196,Tryz.ntmps196;go_wp2_with(go_at_call 94;refine(Qq7 n hn _).mono ?_;rintro e w3 ⟨rfl,rfl⟩);go_ret;exact⟨by rw [<-HO.out] <;> rfl,Qz⟩
theorem Qhw(B:Nat)(v:Value)(l:List Nat)(n:Nat)(w:World)(h:Jn w v l)(hw:∀s∈l,Qm s)(hn:n<=64)(hB:B < w.heap.size)(hb:w.cell? ⟨B,0,none⟩=some (.int .i64 (n:Int))):
 Calls Tryz.prog 195 #[v,.func (.func 196) #[] #[.pointer (some ⟨B,0,none⟩)]] w fun e w'=>e=.returned (.bool (Zn l n))/\Qg w w':=by
 have eg:∀args w,(callFunc 196 args).run Tryz.prog w=.ok (.enter 196 args) w:=fun _ _=>rfl
 refine(Qbl 196 #[.pointer (some ⟨B,0,none⟩)] eg (fun s=> !decide (s < 2^n)) v l w h ?_).mono ?_
 ·intro W s hs hx;exact Qhe B s n W hn (hw s hs) ((hx.cell (p:=⟨B,0,none⟩) hB).trans hb)
 rintro e w1 ⟨rfl,hx⟩;exact⟨rfl,hx⟩
theorem Qq8(v:Value)(l:List Nat)(n:Nat)(w:World)(h:Jn w v l)(hw:∀s∈l,Qm s)(hn:n<=64):
 Calls Tryz.prog 158 #[v,.int .i64 (n:Int)] w fun e w'=>e=.returned (.bool (Zn l n))/\Qg w w':=by
 have HL:=Qq h;have HW:=Qq hw;clear h hw;go_enter Tryz.func158,Tryz.ntmps158;go_wp2_with(go_at_call 195;refine(Qhw w.heap.size _ l n _ (HL.out.ext (by repeat(first|exact Qz|assumption|apply Qg.alloc|apply Qg.drew))) HW.out hn (by simp) (by simp)).mono ?_;rintro e w1 ⟨rfl,hx⟩;have HX:=Qq (((Qg.refl w).alloc _).trans hx);clear hx);go_ret;exact⟨rfl,HX.out⟩
theorem Qsz(B:Nat)(v:Value)(l:List Nat)(n:Nat)(w:World)(h:Jn w v l)(hw:∀s∈l,Qm s)(hn:n<=64)(_hB:B < w.heap.size)(hb:w.cell? ⟨B,0,none⟩=some (.int .i64 (n:Int))):
 Calls Tryz.prog 159 #[v,.pointer (some ⟨B,0,none⟩)] w fun e w'=>e=.returned (.bool (Zn l n))/\Qg w w':=by
 have HL:=Qq h;have HW:=Qq hw;clear h hw;go_enter Tryz.func159,Tryz.ntmps159;go_wp2_with(go_at_call 158;refine(Qq8 _ l n _ (HL.out.ext (by repeat(first|exact Qz|assumption|apply Qg.alloc|apply Qg.drew))) HW.out hn).mono ?_;rintro e w1 ⟨rfl,hx⟩;have HX:=Qq hx;clear hx);go_ret;exact⟨rfl,HX.out⟩
theorem Qvf(B:Nat)(v:Value)(rl:List (List Nat))(n:Nat)(w:World)(h:Px w v rl)(hw:∀r∈rl,∀s∈r,Qm s)(hn:n<=64)(hB:B < w.heap.size)(hb:w.cell? ⟨B,0,none⟩=some (.int .i64 (n:Int))):
 Calls Tryz.prog 99 #[v,.func (.func 159) #[] #[.pointer (some ⟨B,0,none⟩)]] w fun e w'=>e=.returned (.bool (rl.any fun r=>Zn r n))/\Qg w w':=by
 have eg:∀args w,(callFunc 159 args).run Tryz.prog w=.ok (.enter 159 args) w:=fun _ _=>rfl
 refine(Qzl 159 #[.pointer (some ⟨B,0,none⟩)] eg (fun r=>Zn r n) v rl w h ?_).mono ?_
 ·intro W u s hs hx hu;exact Qsz B u s n W hu (hw s hs) hn (Qy hB hx.size) ((hx.cell (p:=⟨B,0,none⟩) hB).trans hb)
 rintro e w1 ⟨rfl,hx⟩;exact⟨rfl,hx⟩
theorem Xa(v:Value)(md:Md)(w:World)(h:Jk w v md)(zP:md.ok):
 Calls Tryz.prog 93 #[v] w fun e w'=>e=.returned (.int .i64 (Qa md))/\Qg w w':=by
 obtain⟨vv,vr,rfl,hv,hr⟩:=h;have HV:=Qq hv;have ZV:=Qq hr;have zE:=Qq zP;obtain⟨Av,cv,rfl,_⟩:=hv;obtain⟨Ar,cr,rfl,_,_,HR⟩:=Gj hr;obtain⟨z,hz⟩:∃z,z=md.n:=⟨_,rfl⟩;have HZ:=Qq hz;rw [<-hz];clear hr zP hz;by_cases h1:z < 1
 ·have HE:=Qq (show Qa md=2 by unfold Qa;rw [<-HZ.out,if_pos (.inl h1)]);go_enter Tryz.func93,Tryz.ntmps93;go_wp2_with fail;go_ret;exact⟨by rw [HE.out] <;> rfl,(by repeat(first|exact Qz|assumption|apply Qg.alloc|apply Qg.drew))⟩
 by_cases h2:64 < z
 ·have HE:=Qq (show Qa md=2 by unfold Qa;rw [<-HZ.out,if_pos (.inr h2)]);go_enter Tryz.func93,Tryz.ntmps93;go_wp2_with fail;go_ret;exact⟨by rw [HE.out] <;> rfl,(by repeat(first|exact Qz|assumption|apply Qg.alloc|apply Qg.drew))⟩
 by_cases h3:4 < md.rel.length
 ·have HE:=Qq (show Qa md=8 by unfold Qa;rw [<-HZ.out,if_neg (by omega),if_pos (.inl h3)]);have ZK:(4:Int) < (md.rel.length:Int):=by omega
  clear h3;go_enter Tryz.func93,Tryz.ntmps93;go_wp2_with fail;go_ret;exact⟨by rw [HE.out] <;> rfl,(by repeat(first|exact Qz|assumption|apply Qg.alloc|apply Qg.drew))⟩
 by_cases h4:8 < md.val.length
 ·have HE:=Qq (show Qa md=8 by unfold Qa;rw [<-HZ.out,if_neg (by omega),if_pos (.inr h4)]);have TT:(8:Int) < (md.val.length:Int):=by omega
  have ZK:¬(4:Int) < (md.rel.length:Int):=by omega
  clear h3 h4;go_enter Tryz.func93,Tryz.ntmps93;go_wp2_with fail;go_ret;exact⟨by rw [HE.out] <;> rfl,(by repeat(first|exact Qz|assumption|apply Qg.alloc|apply Qg.drew))⟩
 have TT:¬(8:Int) < (md.val.length:Int):=by omega
 have ZK:¬(4:Int) < (md.rel.length:Int):=by omega
 obtain⟨n,hnz⟩:∃n:Nat,(n:Int)=z:=⟨z.toNat,by omega⟩;subst hnz;have yZ:n<=64:=by omega
 have wU:0 < n:=by omega
 have HC:=Qq (show Qa md=if md.rel.any (fun r=> !decide (r.length=n))then 3 else if Zn md.val n then 2 else if md.rel.any (fun r=>Zn r n)then 2 else 0 by
  unfold Qa;rw [<-HZ.out,if_neg (by omega),if_neg (by omega),Int.toNat_natCast];simp only [Int.natCast_inj])
 obtain⟨rl,wP⟩:∃l,l=md.rel:=⟨_,rfl⟩;have uB:=Qq wP;rw [<-wP]at HR ZV ZK h3 HC;rw [<-wP];clear h1 h2 h4 wP;go_enter Tryz.func93,Tryz.ntmps93;go_wp2_with fail;go_loopw [26] (fun v wr=>∃k:Nat,v=.int .i64 (k:Int)/\k<=rl.length/\wr=w.alloc (.cells #[.int .i64 (n:Int),.slice Av md.val.length cv,.slice Ar rl.length cr] 26)/\Hid (∀j,j < k->decide ((rl.getD j []).length=n)=true)) (fun v _=>rl.length - (intOf v).toNat)
 case atStart=>exact⟨0,rfl,Nat.zero_le _,rfl,Qq fun j hj=>absurd hj (by omega)⟩
 case round =>
  obtain⟨k,rfl,hk,rfl,HJ⟩:=hrel;by_cases hlt2:k < rl.length
  ·have yV:(k:Int) < (rl.length:Int):=by omega
   obtain⟨ad,u,rfl,yS,hu,xV⟩:=HR.out k hlt2;obtain⟨Au,cu,rfl,_⟩:=xV;have a0:=(((Qg.refl w).alloc (.cells #[.int .i64 (n:Int),.slice Av md.val.length cv,.slice (some ad) rl.length cr] 26)).cell (p:=ad.add k) (Qj yS)).trans hu;clear hu;obtain⟨q,hq⟩:∃q,q=(rl.getD k []).length:=⟨_,rfl⟩;have zD:=Qq (show decide (q=n)=true->∀j,j < k+1->decide ((rl.getD j []).length=n)=true from fun h=>Do (P:=fun j=>decide ((rl.getD j []).length=n)=true) HJ.out (by rw [<-hq];exact h));have sX:=Qq (show decide (q=n)=false->rl.any (fun r=> !decide (r.length=n))=true from fun h=>Qve hlt2 (by rw [<-hq,h];rfl));rw [<-hq]at a0
   clear hq;by_cases hd:q=n
   ·have HP:=Qq (zD.out (decide_eq_true hd));subst hd;have zQ:((q:Int) !=(q:Int))=false:=by simp
    go_wp2_with fail;go_roundw
    case rel=>exact⟨k+1,by go_num,by omega,by first|trivial|rfl,HP⟩
    case measure=>simp [intOf];omega
   have HE:=Qq (show Qa md=3 by rw [HC.out,if_pos (sX.out (decide_eq_false hd))]);have zQ:((q:Int) !=(n:Int))=true:=by simp only [bne_iff_ne,ne_eq,Int.natCast_inj];exact hd
   go_wp2_with fail;go_ret;exact⟨by rw [HE.out] <;> rfl,(by repeat(first|exact Qz|assumption|apply Qg.alloc|apply Qg.drew))⟩
  obtain rfl:rl.length=k:=by omega
  have pH:=Qq (show Qa md=if Zn md.val n then 2 else if rl.any (fun r=>Zn r n)then 2 else 0 by
   rw [HC.out,if_neg (by rw [Qzi (P:=fun r=> !decide (r.length=n)) (fun j hj=>by rw [HJ.out j hj];rfl)];simp)])
  clear HC HJ;have rN:(w.alloc (.cells #[.int .i64 (n:Int),.slice Av md.val.length cv,.slice Ar rl.length cr] 26)).cell? ⟨w.heap.size,0,none⟩=some (.int .i64 (n:Int)):=by simp
  have PD:=Qq rN;clear rN;go_upto_region 11 with(fail);cases hb:Zn md.val n
  ·have HB:=Qq hb;cases ha:rl.any (fun r=>Zn r n)
   ·have HE:=Qq (show Qa md=0 by rw [pH.out,HB.out,ha];rfl);have HA:=Qq ha;clear ha hb;go_wp2_with(first|(go_at_call 158;refine(Qq8 _ md.val n _ (HV.out.ext (by repeat(first|exact Qz|assumption|apply Qg.alloc|apply Qg.drew))) zE.out.val yZ).mono ?_;rintro e w1 ⟨rfl,hx⟩;rw [HB.out];have HX:=Qq (((Qg.refl w).alloc _).trans hx);have zO:=Qq hx;have tB:w1.cell? ⟨w.heap.size,2,none⟩=some (.slice Ar rl.length cr):=(hx.cell (p:=⟨w.heap.size,2,none⟩) (by simp)).trans (by simp);clear hx)|(go_at_call 99;refine(Qvf w.heap.size _ rl n _ (ZV.out.ext HX.out) (by rw [uB.out];exact zE.out.rel) yZ (Qy (by simp) zO.out.size) ((zO.out.cell (p:=⟨w.heap.size,0,none⟩) (by simp)).trans PD.out)).mono ?_;rintro e w2 ⟨rfl,hx⟩;rw [HA.out];have zT:=Qq hx;clear hx))
    go_ret;exact⟨by rw [HE.out] <;> rfl,HX.out.trans zT.out⟩
   have HE:=Qq (show Qa md=2 by rw [pH.out,HB.out,ha];rfl);have HA:=Qq ha;clear ha hb;go_wp2_with(first|(go_at_call 158;refine(Qq8 _ md.val n _ (HV.out.ext (by repeat(first|exact Qz|assumption|apply Qg.alloc|apply Qg.drew))) zE.out.val yZ).mono ?_;rintro e w1 ⟨rfl,hx⟩;rw [HB.out];have HX:=Qq (((Qg.refl w).alloc _).trans hx);have zO:=Qq hx;have tB:w1.cell? ⟨w.heap.size,2,none⟩=some (.slice Ar rl.length cr):=(hx.cell (p:=⟨w.heap.size,2,none⟩) (by simp)).trans (by simp);clear hx)|(go_at_call 99;refine(Qvf w.heap.size _ rl n _ (ZV.out.ext HX.out) (by rw [uB.out];exact zE.out.rel) yZ (Qy (by simp) zO.out.size) ((zO.out.cell (p:=⟨w.heap.size,0,none⟩) (by simp)).trans PD.out)).mono ?_;rintro e w2 ⟨rfl,hx⟩;rw [HA.out];have zT:=Qq hx;clear hx))
   go_ret;exact⟨by rw [HE.out] <;> rfl,HX.out.trans zT.out⟩
  have HE:=Qq (show Qa md=2 by rw [pH.out,hb];rfl);have HB:=Qq hb;clear hb;go_wp2_with(go_at_call 158;refine(Qq8 _ md.val n _ (HV.out.ext (by repeat(first|exact Qz|assumption|apply Qg.alloc|apply Qg.drew))) zE.out.val yZ).mono ?_;rintro e w1 ⟨rfl,hx⟩;rw [HB.out];have HX:=Qq (((Qg.refl w).alloc _).trans hx);clear hx);go_ret;exact⟨by rw [HE.out] <;> rfl,HX.out⟩
end Go.Proofs.YtkmclcmnoicagaaGreatDoor
