/- Proofs by natural deduction in memory: lines, lists of lists, the checker behind a pointer. -/
import Derived.Test.YtmidgcldljfkcaaGreatDoorM01
import Derived.Test.YtmidgcldljfkcaaGreatDoorM04
import Derived.Deep.DeepCutAuto
namespace Go.Proofs.YtmidgcldljfkcaaGreatDoor
set_option maxRecDepth 100000
set_option maxHeartbeats 128000000
open Go.RowKit
structure Ln where
 depth:Int
 rule:Int
 f:List Nd
 agent:Int
 from_:List Int
def Qd0(w:World)(a:Addr)(n:Ln):Prop :=
 ∃uf ur,w.cell? a=some (.int .i64 n.depth)/\w.cell? ⟨a.block,a.off+1,none⟩=some (.int .i64 n.rule)/\w.cell? ⟨a.block,a.off+2,none⟩=some uf/\w.cell? ⟨a.block,a.off+3,none⟩=some (.int .i64 n.agent)/\
  w.cell? ⟨a.block,a.off+4,none⟩=some ur/\Fml w uf n.f/\Zi w ur n.from_
def Qvj(w:World)(A:Option Addr)(c:Nat)(l:List Ln):Prop :=
 l.length<=c/\c<=maxLen/\(l≠ []->∃ad,A=some ad/\ad.block < w.heap.size/\∀k n,l[k]?=some n->Qd0 w (ad.add (k*5)) n)
def Lns(w:World)(v:Value)(l:List Ln):Prop:=∃A c,v=.slice A l.length c/\Qvj w A c l
def Ov(w:World)(A:Option Addr)(c:Nat)(ls:List (List Int)):Prop :=
 ls.length<=c/\c<=maxLen/\(ls≠ []->∃ad,A=some ad/\ad.block < w.heap.size/\∀k l,ls[k]?=some l->∃u,w.cell? (ad.add k)=some u/\Zi w u l)
def Qvx(w:World)(v:Value)(ls:List (List Int)):Prop:=∃A c,v=.slice A ls.length c/\Ov w A c ls
section
variable {w w':World} {a:Addr} {n:Ln} {v:Value}
theorem Qd0.ext(h:Qd0 w a n)(he:Ext w w')(ha:a.block < w.heap.size):Qd0 w' a n:=by
 obtain⟨uf,ur,h0,h1,h2,h3,h4,h5,h6⟩:=h;have hk:∀o s,w'.cell? ⟨a.block,o,s⟩=w.cell? ⟨a.block,o,s⟩:=fun o s=>he.cell (p:=⟨a.block,o,s⟩) ha
 exact⟨uf,ur,(hk _ _).trans h0,(hk _ _).trans h1,(hk _ _).trans h2,(hk _ _).trans h3,(hk _ _).trans h4,h5.ext he,h6.ext he⟩
theorem Qvj.ext {A:Option Addr} {c:Nat} {l:List Ln}(h:Qvj w A c l)(he:Ext w w'):Qvj w' A c l :=
 ⟨h.1,h.2.1,fun hn=>by
  obtain⟨ad,e,hlt,hc⟩:=h.2.2 hn;exact⟨ad,e,Qy hlt he.size,fun k n hk=>(hc k n hk).ext he (Qj hlt)⟩⟩
theorem Lns.ext {l:List Ln}(h:Lns w v l)(he:Ext w w'):Lns w' v l:=by
 obtain⟨A,c,e,h⟩:=h;exact⟨A,c,e,h.ext he⟩
theorem Ov.ext {A:Option Addr} {c:Nat} {ls:List (List Int)}(h:Ov w A c ls)(he:Ext w w'):Ov w' A c ls :=
 ⟨h.1,h.2.1,fun hn=>by
  obtain⟨ad,e,hlt,hc⟩:=h.2.2 hn;refine⟨ad,e,Qy hlt he.size,fun k l hk=> ?_⟩;obtain⟨u,hu,hf⟩:=hc k l hk;exact⟨u,(he.cell (Qj hlt)).trans hu,hf.ext he⟩⟩
theorem Qvx.ext {ls:List (List Int)}(h:Qvx w v ls)(he:Ext w w'):Qvx w' v ls:=by
 obtain⟨A,c,e,h⟩:=h;exact⟨A,c,e,h.ext he⟩
end
structure Chk (w:World) (b:Nat) (lg:Int) (ls:List Ln) (fs:List (List Nd)) (st:List (List Int)):Prop where
 all:∃vl vf vs,w.heap[b]?=some (.cells #[.int .i64 lg,vl,vf,vs] 93 (0,0))/\Lns w vl ls/\Rl w vf fs/\Qvx w vs st
theorem Chk.ext {w w':World} {b:Nat} {lg:Int} {ls:List Ln} {fs:List (List Nd)} {st:List (List Int)}(h:Chk w b lg ls fs st)(he:Ext w w'):Chk w' b lg ls fs st:=by
 obtain⟨vl,vf,vs,hb,h1,h2,h3⟩:=h.all;exact⟨vl,vf,vs,(he.block (Qm hb)).trans hb,h1.ext he,h2.ext he,h3.ext he⟩
theorem Bn {w:World} {b:Nat} {a0 a1 a2 a3:Value} {t:TypeId}(h:w.heap[b]?=some (.cells #[a0,a1,a2,a3] t (0,0))):
 w.cell? ⟨b,0,none⟩=some a0/\w.cell? ⟨b,1,none⟩=some a1/\w.cell? ⟨b,2,none⟩=some a2/\w.cell? ⟨b,3,none⟩=some a3/\(∀j,w.frozen? ⟨b,j,none⟩=false)/\b < w.heap.size :=
 ⟨by simp [World.cell?,h],by simp [World.cell?,h],by simp [World.cell?,h],by simp [World.cell?,h],fun j=>by simp [World.frozen?,h],Qm h⟩
theorem Chk.line {w:World} {b:Nat} {lg:Int} {ls:List Ln} {fs:List (List Nd)} {st:List (List Int)}(h:Chk w b lg ls fs st) {i:Nat} {n:Ln}(hi:ls[i]?=some n):
 ∃(ad:Addr) (c:Nat) (vf vs uf ur:Value),ls.length<=c/\c<=9223372036854775807/\ad.block < w.heap.size/\w.cell? ⟨b,0,none⟩=some (.int .i64 lg)/\w.cell? ⟨b,1,none⟩=some (.slice (some ad) ls.length c)/\w.cell? ⟨b,2,none⟩=some vf/\w.cell? ⟨b,3,none⟩=some vs/\
  w.cell? (ad.add (i*5))=some (.int .i64 n.depth)/\w.cell? ⟨(ad.add (i*5)).block,(ad.add (i*5)).off+1,none⟩=some (.int .i64 n.rule)/\w.cell? ⟨(ad.add (i*5)).block,(ad.add (i*5)).off+2,none⟩=some uf/\
  w.cell? ⟨(ad.add (i*5)).block,(ad.add (i*5)).off+3,none⟩=some (.int .i64 n.agent)/\w.cell? ⟨(ad.add (i*5)).block,(ad.add (i*5)).off+4,none⟩=some ur/\Fml w uf n.f/\Zi w ur n.from_:=by
 obtain⟨vl,vf,vs,hb,⟨A,c,rfl,h1,h2,h3⟩,_,_⟩:=h.all;obtain⟨d0,d1,d2,d3,_,_⟩:=Bn hb;obtain⟨ad,rfl,hlt,hc⟩:=h3 (by intro e;rw [e]at hi;simp at hi);obtain⟨uf,ur,q0,q1,q2,q3,q4,q5,q6⟩:=hc i n hi;unfold maxLen at h2;exact⟨ad,c,vf,vs,uf,ur,h1,by omega,hlt,d0,d1,d2,d3,q0,q1,q2,q3,q4,q5,q6⟩
def Kk(n:Ln):Bool:=n.rule==1||n.rule==2
theorem Mp {w:World} {b:Nat} {lg:Int} {ls:List Ln} {fs:List (List Nd)} {st:List (List Int)}(h:Chk w b lg ls fs st)(i:Nat)(n:Ln)(hi:ls[i]?=some n):
 Calls Tryz.prog 67 #[.pointer (some ⟨b,0,none⟩),.int .i64 i] w fun e w'=>e=.returned (.bool (Kk n))/\Ext w w':=by
 obtain⟨ad,c,vf,vs,uf,ur,hc1,hc2,hlt,d0,d1,d2,d3,q0,q1,q2,q3,q4,_,_⟩:=h.line hi;have hil:i < ls.length:=(List.getElem?_eq_some_iff.1 hi).1;clear h hi;by_cases h1:n.rule=1
 ·have e1:(n.rule==1)=true:=by simp [h1]
  clear h1;go_enter Tryz.func67,Tryz.ntmps67;go_wp2_with fail;go_ret;exact⟨Qr (by simp [Kk,e1]),Qz⟩
 have e1:(n.rule==1)=false:=by simpa using h1
 clear h1;go_enter Tryz.func67,Tryz.ntmps67;go_wp2_with fail;go_ret;exact⟨Qr (by simp [Kk,e1]),Qz⟩
def Ln.zero:Ln:=⟨0,0,[],0,[]⟩
def Js(ls:List Ln)(o:Int):Ln:=ls.getD o.toNat Ln.zero
theorem Ua {ls:List Ln} {o:Int}(h0:0<=o)(h1:o < ls.length):ls[o.toNat]?=some (Js ls o):=by
 unfold Js;rw [Qk,List.getElem?_eq_getElem (by omega)];simp
def Mh(ls:List Ln)(o:Int):Bool:=(Js ls o).rule==2
def Jv(ls:List Ln)(l:List Int):List Int:=l.filter (Mh ls)
theorem Qgx(ls:List Ln)(l:List Int)(o:Int):Jv ls (l++ [o])=Jv ls l++(if Mh ls o then [o]else []):=by
 unfold Jv;rw [List.filter_append];cases h:Mh ls o <;> simp [h]
theorem Uo {w:World} {b:Nat} {lg:Int} {ls:List Ln} {fs:List (List Nd)} {st:List (List Int)}(h:Chk w b lg ls fs st)(v:Value)(l:List Int)(hv:Zi w v l)(hl:∀o∈l,0<=o/\o < ls.length)(hlen:l.length<=1000):
 Calls Tryz.prog 202 #[.pointer (some ⟨b,0,none⟩),v] w fun e w'=>∃u,e=.returned u/\Hn w w' u (Jv ls l):=by
 obtain⟨A,c,rfl,hcap,hmax,hr⟩:=hv;unfold maxLen at hmax;have HR:=Qq hr;have H:=Qq h;have HL:=Qq hl;obtain⟨i3,hi3,hz30,hz31,hz32⟩:=info_parts Qq8;clear hr h hl;go_enter Tryz.func202,Tryz.ntmps202;go_wp2_with fail;go_loopw [5,10] (fun v5 i wr=>∃k:Nat,k<=l.length/\i=.int .i64 k/\Hid (wr.ownsRow w.heap.size 3 1 v5 (Jv ls (l.take k)).length ((Jv ls (l.take k)).map (Value.int .i64)))/\Ext w wr) (fun _ i _=>l.length - (intOf i).toNat)
 case atStart=>exact⟨0,Nat.zero_le _,rfl,Qq (World.ownsRow_nil _ _ _ _),Qz⟩
 case round =>
  obtain⟨k,hk,rfl,HROW,hext⟩:=hrel;obtain⟨A5,c5,rfl⟩:=Zq HROW.out;by_cases hlt2:k < l.length
  ·obtain⟨o,ho⟩:∃o,l[k]?=some o:=⟨_,Qv hlt2⟩;obtain⟨ad,rfl,hb1,hc1⟩:=HR.out (by intro e;rw [e]at hlt2;simp at hlt2);have a0:=(hext.cell (p:=ad.add k) (Qj hb1)).trans (hc1 k o ho);obtain⟨ho0,ho1⟩:=HL.out o (List.mem_of_getElem? ho);obtain⟨on,rfl⟩:=Int.eq_ofNat_of_zero_le ho0;have hline:=Ua ho0 ho1;rw [Int.toNat_natCast]at hline;have HS:Hid (Jv ls (l.take (k+1))=Jv ls (l.take k)++(if Mh ls (on:Int)then [(on:Int)]else [])):=Qq (by rw [Yr ho,Qgx]);obtain⟨adl,cl,vf,vs,uf,ur,hcl1,hcl2,hltl,d0,d1,d2,d3,q0,q1,q2,q3,q4,_,_⟩:=(H.out.ext hext).line hline;have hbl:(Jv ls (l.take k)).length<=1000:=Qx (List.length_filter_le _ _) (Qx (List.length_take_le' _ _) hlen)
   clear ho hc1 hline;by_cases hbx:(Js ls (on:Int)).rule=2
   ·have e1:((Js ls (on:Int)).rule==2)=true:=by simp [hbx]
    have HN:Hid (Jv ls (l.take (k+1))=Jv ls (l.take k)++ [(on:Int)]):=Qq (by rw [HS.out];simp [Mh,e1]);clear hbx;generalize Jv ls (l.take k)=bs at HROW HN hbl;obtain⟨xs,hxs⟩:∃xs,xs=bs.map (Value.int .i64):=⟨_,rfl⟩;rw [<-hxs]at HROW;have HXS:=Qq hxs;have hc3:bs.length+1<=maxLen:=by unfold maxLen;omega
    have hc4:(bs.length+1)*8<=140737488355328:=by omega
    have hc5:∀X,w.heap.size<=(wr.alloc X).heap.size:=fun X=>Qx hext.size (by simp)
    clear hxs;go_wp2_with(at_builtin;refine wpList_append_own_at _ rfl _ _ 60 rfl w.heap.size 3 i3 (.int .i64 0) 1 8 Tryz.underlying60 hi3 hz30 hz31 hz32 rfl (by decide) _ _ _ rfl (Jt HROW.out (Qz.alloc _)) _ 1 1 [.int .i64 (on:Int)] rfl rfl (Yv _ _ _ (by simp)) (fun u hu=>by rw [List.mem_singleton.1 hu];rfl) hc3 hc4 (hc5 _) ?_);intro v' w4 hown4 hgrow4 _ hat4;obtain⟨A4,c4,rfl⟩:=Zq hown4;have HROW4:=Qq hown4;have HX4:=Qq ((Ext.alloc hext _).grown hgrow4 (fun g hg=>(HROW.out.lt g hg).1));clear hown4 hgrow4 hat4;go_wp2_with fail;go_roundw
    case rel=>exact⟨k+1,by omega,by go_num,Qq (by have h4:=HROW4.out;rw [HXS.out]at h4;rw [HN.out];simpa using h4),HX4.out⟩
    case measure=>simp [intOf];omega
   have e1:((Js ls (on:Int)).rule==2)=false:=by simpa using hbx
   have HN:Hid (Jv ls (l.take (k+1))=Jv ls (l.take k)):=Qq (by rw [HS.out];simp [Mh,e1]);clear hbx;go_wp2_with fail;go_roundw
   case rel=>exact⟨k+1,by omega,by go_num,Qq (by rw [HN.out];exact HROW.out),hext⟩
   case measure=>simp [intOf];omega
  obtain rfl:l.length=k:=by omega
  have HN:Hid (Jv ls l=Jv ls (l.take l.length)):=Qq (by rw [List.take_of_length_le (Nat.le_refl _)]);go_wp2_with fail;go_ret;exact⟨_,rfl,by rw [HN.out];exact⟨HROW.out,hext⟩⟩
theorem Zi.take_ {w:World} {A:Option Addr} {c n:Nat} {l:List Int}(h:Dw w A c l)(hn:n<=l.length):Zi w (.slice A n c) (l.take n):=by
 have e:(l.take n).length=n:=by simp;omega
 refine⟨A,c,by rw [e],by rw [e];exact Qx hn h.1,h.2.1,fun hne=> ?_⟩;obtain⟨ad,ea,hb,hc⟩:=h.2.2 (by intro e;rw [e]at hne;simp at hne);refine⟨ad,ea,hb,fun k z hk=>hc k z ?_⟩;rw [List.getElem?_take]at hk
 split at hk
 ·exact hk
 cases hk
theorem Zi.drop_ {w:World} {A:Option Addr} {c n:Nat} {l:List Int}(h:Dw w A c l)(hn:n<=l.length):Zi w (.slice (if c=n then A else A.map (·.add n)) (l.length - n) (c - n)) (l.drop n):=by
 have e:(l.drop n).length=l.length - n:=by simp
 refine⟨_,c - n,by rw [e],by rw [e];have:=h.1;omega,by have:=h.2.1;omega,fun hne=> ?_⟩;have hlt:n < l.length:=by
  by_cases h0:n < l.length
  ·exact h0
  exact absurd (List.drop_eq_nil_of_le (by omega)) hne
 obtain⟨ad,rfl,hb,hc⟩:=h.2.2 (by intro e;rw [e]at hlt;simp at hlt);rw [if_neg (by have:=h.1;omega)];refine⟨_,rfl,by rw [Qn];exact hb,fun k z hk=> ?_⟩;rw [Qq9];exact hc _ z (by rw [<-hk,List.getElem?_drop])
def Yl(st:List (List Int))(i:Nat)(j:Int):Option (List Int):=
 if j < 0\/(i:Int)<=j then none else if(st.getD i []).take (st.getD j.toNat []).length=st.getD j.toNat []then some ((st.getD i []).drop (st.getD j.toNat []).length)else none
theorem Chk.stack {w:World} {b:Nat} {lg:Int} {ls:List Ln} {fs:List (List Nd)} {st:List (List Int)}(h:Chk w b lg ls fs st) {i j:Nat} {si sj:List Int}(hi:st[i]?=some si)(hj:st[j]?=some sj):
 ∃(ad:Addr) (c:Nat) (vl vf:Value) (Ai Aj:Option Addr) (ci cj:Nat),st.length<=c/\c<=9223372036854775807/\ad.block < w.heap.size/\w.cell? ⟨b,0,none⟩=some (.int .i64 lg)/\w.cell? ⟨b,1,none⟩=some vl/\w.cell? ⟨b,2,none⟩=some vf/\w.cell? ⟨b,3,none⟩=some (.slice (some ad) st.length c)/\
  w.cell? (ad.add i)=some (.slice Ai si.length ci)/\w.cell? (ad.add j)=some (.slice Aj sj.length cj)/\Dw w Ai ci si/\Dw w Aj cj sj:=by
 obtain⟨vl,vf,vs,hb,_,_,⟨A,c,rfl,h1,h2,h3⟩⟩:=h.all;obtain⟨d0,d1,d2,d3,_,_⟩:=Bn hb;obtain⟨ad,rfl,hlt,hc⟩:=h3 (by intro e;rw [e]at hi;simp at hi);obtain⟨ui,hui,Ai,ci,rfl,hIi⟩:=hc i si hi;obtain⟨uj,huj,Aj,cj,rfl,hIj⟩:=hc j sj hj;unfold maxLen at h2;exact⟨ad,c,vl,vf,Ai,Aj,ci,cj,h1,by omega,hlt,d0,d1,d2,d3,hui,huj,hIi,hIj⟩
theorem Qbc {w:World} {b:Nat}(i:Nat)(j:Int)(hj:j < 0\/(i:Int)<=j):
 Calls Tryz.prog 201 #[.pointer (some ⟨b,0,none⟩),.int .i64 i,.int .i64 j] w fun e w'=>e=.returned (.tuple #[.slice none 0 0,.bool false])/\Ext w w':=by
 by_cases h0:j < 0
 ·clear hj;go_enter Tryz.func201,Tryz.ntmps201;go_wp2_with fail;go_ret2;exact⟨rfl,Qz⟩
 have h1:(i:Int)<=j:=by omega
 clear hj;go_enter Tryz.func201,Tryz.ntmps201;go_wp2_with fail;go_ret2;exact⟨rfl,Qz⟩
theorem Qse {w:World} {b:Nat} {lg:Int} {ls:List Ln} {fs:List (List Nd)} {st:List (List Int)}(h:Chk w b lg ls fs st)(i j:Nat)(si sj:List Int)(hi:st[i]?=some si)(hj:st[j]?=some sj)(hji:j < i):
 Calls Tryz.prog 201 #[.pointer (some ⟨b,0,none⟩),.int .i64 i,.int .i64 (j:Int)] w fun e w'=>∃u,e=.returned (.tuple #[u,.bool (decide (si.take sj.length=sj))])/\Ext w w'/\(si.take sj.length=sj->Zi w' u (si.drop sj.length)):=by
 obtain⟨ad,c,vl,vf,Ai,Aj,ci,cj,hc1,hc2,hlt,d0,d1,d2,d3,hui,huj,hIi,hIj⟩:=h.stack hi hj;have hil:i < st.length:=(List.getElem?_eq_some_iff.1 hi).1;have hjl:j < st.length:=(List.getElem?_eq_some_iff.1 hj).1;have HI:=Qq hIi;have HJ:=Qq hIj;have hci:=hIi.1;have hcim:=hIi.2.1;have hcjm:=hIj.2.1;have hcj:=hIj.1;unfold maxLen at hcim hcjm;have hn0:¬(j:Int) < 0:=by omega
 clear h hi hj hIi hIj;by_cases hle:sj.length<=si.length
 ·have hEQ:=Qq (fun(nq:Nat)=>Qkg (.slice Ai sj.length ci) (.slice Aj sj.length cj) (si.take sj.length) sj (w.drewN nq) ((Zi.take_ HI.out hle).ext (Qz.drewN nq)) ⟨_,_,rfl,HJ.out.ext (Qz.drewN nq)⟩);have hg:decide (si.length < sj.length)=false:=by simp;omega
  have hsl:(sj.length:Int)<=(ci:Int):=by omega
  by_cases heq:si.take sj.length=sj
  ·have hd:decide (si.take sj.length=sj)=true:=by simpa using heq
   have HQ:=Qq heq;rw [hd]at hEQ⊢;clear heq hd;by_cases hcn:ci=sj.length
   ·have HD:=Qq (Zi.drop_ HI.out hle);rw [if_pos hcn,hcn,Nat.sub_self]at HD;subst hcn;go_enter Tryz.func201,Tryz.ntmps201;go_wp2_with fail;go_quiet ((go_at_call 205;exact Calls.quiet_of (hEQ.out _)));go_wp2_with fail;go_ret2;refine⟨.slice Ai (si.length - sj.length) 0,?_,Qz.drewN _,fun _=>HD.out.ext (Qz.drewN _)⟩;simp;omega
   have HD:=Qq (Zi.drop_ HI.out hle);rw [if_neg hcn]at HD;go_enter Tryz.func201,Tryz.ntmps201;go_wp2_with fail;go_quiet ((go_at_call 205;exact Calls.quiet_of (hEQ.out _)));go_wp2_with fail;go_ret2;exact⟨_,rfl,Qz.drewN _,fun _=>HD.out.ext (Qz.drewN _)⟩
  have hd:decide (si.take sj.length=sj)=false:=by simpa using heq
  have HQ:=Qq heq;rw [hd]at hEQ⊢;clear heq hd;go_enter Tryz.func201,Tryz.ntmps201;go_wp2_with fail;go_quiet ((go_at_call 205;exact Calls.quiet_of (hEQ.out _)));go_wp2_with fail;go_ret2;exact⟨_,rfl,Qz.drewN _,fun e=>absurd e HQ.out⟩
 have hg:decide (si.length < sj.length)=true:=by simp;omega
 have HQ:=Qq (show ¬si.take sj.length=sj from fun e=>by
  have:=congrArg List.length e;simp at this
  omega)
 have hd:decide (si.take sj.length=sj)=false:=by simpa using HQ.out
 rw [hd];clear hd;go_enter Tryz.func201,Tryz.ntmps201;go_wp2_with fail;go_quiet (fail);go_wp2_with fail;go_ret2;exact⟨_,rfl,Qz.drewN _,fun e=>absurd e HQ.out⟩
theorem Ue {w:World} {b:Nat} {lg:Int} {ls:List Ln} {fs:List (List Nd)} {st:List (List Int)}(h:Chk w b lg ls fs st)(i:Nat)(j:Int)(hi:i < st.length):
 Calls Tryz.prog 201 #[.pointer (some ⟨b,0,none⟩),.int .i64 i,.int .i64 j] w fun e w'=>∃u,e=.returned (.tuple #[u,.bool (Yl st i j).isSome])/\Ext w w'/\∀r,Yl st i j=some r->Zi w' u r:=by
 by_cases hj:j < 0\/(i:Int)<=j
 ·refine(Qbc (b:=b) i j hj).mono ?_;rintro e w' ⟨rfl,hx⟩;have hw:Yl st i j=none:=by unfold Yl;rw [if_pos hj]
  exact⟨_,by rw [hw];rfl,hx,fun r hr=>by rw [hw]at hr;cases hr⟩
 obtain⟨jn,rfl⟩:=Int.eq_ofNat_of_zero_le (show 0<=j by omega);have hji:jn < i:=by omega
 have e1:st[i]?=some (st.getD i []):=by rw [Qk,Qv hi];rfl
 have e2:st[jn]?=some (st.getD jn []):=by rw [Qk,List.getElem?_eq_getElem (show jn < st.length by omega)];rfl
 refine(Qse h i jn _ _ e1 e2 hji).mono ?_;rintro e w' ⟨u,rfl,hx,hr⟩;have hw:Yl st i (jn:Int)=if(st.getD i []).take (st.getD jn []).length=st.getD jn []then some ((st.getD i []).drop (st.getD jn []).length)else none:=by
  unfold Yl;rw [if_neg hj,Int.toNat_natCast]
 by_cases hq:(st.getD i []).take (st.getD jn []).length=st.getD jn []
 ·rw [if_pos hq]at hw;refine⟨u,by rw [hw,decide_eq_true hq];rfl,hx,fun r hr'=> ?_⟩;rw [hw]at hr';injection hr' with hr';subst hr';exact hr hq
 rw [if_neg hq]at hw;exact⟨u,by rw [hw,decide_eq_false hq];rfl,hx,fun r hr'=>by rw [hw]at hr';cases hr'⟩
def Qv2(ls:List Ln)(st:List (List Int)):Prop:=∀s∈st,s.length<=1000/\∀o∈s,0<=o/\o < ls.length
theorem Fw {ls:List Ln} {st:List (List Int)}(h:Qv2 ls st) {i:Nat} {j:Int} {r:List Int}(hr:Yl st i j=some r)(hi:i < st.length):r.length<=1000/\∀o∈r,0<=o/\o < ls.length:=by
 unfold Yl at hr
 split at hr
 ·cases hr
 split at hr
 ·injection hr with hr;subst hr;have hm:st.getD i []∈st:=by
   rw [Qk,Qv hi];exact List.getElem_mem hi
  obtain⟨h1,h2⟩:=h _ hm;exact⟨by rw [List.length_drop];omega,fun o ho=>h2 o (List.mem_of_mem_drop ho)⟩
 cases hr
def Xt(ls:List Ln)(fs:List (List Nd))(st:List (List Int))(i:Nat)(j:Int):Option (List Nd):=
 match Yl st i j with
 |none=>none
 |some r=>bif (Jv ls r).isEmpty then some (fs.getD j.toNat [])else none
theorem Chk.form {w:World} {b:Nat} {lg:Int} {ls:List Ln} {fs:List (List Nd)} {st:List (List Int)}(h:Chk w b lg ls fs st) {i:Nat} {f:List Nd}(hi:fs[i]?=some f):
 ∃(ad:Addr) (c:Nat) (vl vs:Value) (Ai:Option Addr) (ci:Nat),fs.length<=c/\c<=9223372036854775807/\ad.block < w.heap.size/\w.cell? ⟨b,0,none⟩=some (.int .i64 lg)/\w.cell? ⟨b,1,none⟩=some vl/\w.cell? ⟨b,2,none⟩=some (.slice (some ad) fs.length c)/\w.cell? ⟨b,3,none⟩=some vs/\
  w.cell? (ad.add i)=some (.slice Ai f.length ci)/\Fml w (.slice Ai f.length ci) f:=by
 obtain⟨vl,vf,vs,hb,_,⟨A,c,rfl,h1,h2,h3⟩,_⟩:=h.all;obtain⟨d0,d1,d2,d3,_,_⟩:=Bn hb;obtain⟨ad,rfl,hlt,hc⟩:=h3 (by intro e;rw [e]at hi;simp at hi);obtain⟨ui,hui,hf⟩:=hc i f hi;obtain⟨Ai,ci,rfl,_⟩:=Qg hf;unfold maxLen at h2;exact⟨ad,c,vl,vs,Ai,ci,h1,by omega,hlt,d0,d1,d2,d3,hui,hf⟩
theorem Mz {w:World} {b:Nat} {lg:Int} {ls:List Ln} {fs:List (List Nd)} {st:List (List Int)}(h:Chk w b lg ls fs st)(hst:Qv2 ls st)(i k:Nat)(n:Ln)(j:Int)(hi:ls[i]?=some n)(hk:n.from_[k]?=some j)(his:i < st.length)(hif:i<=fs.length):
 Calls Tryz.prog 194 #[.pointer (some ⟨b,0,none⟩),.int .i64 i,.int .i64 (k:Int)] w fun e w'=>∃u,e=.returned (.tuple #[u,.bool (Xt ls fs st i j).isSome])/\Ext w w'/\∀f,Xt ls fs st i j=some f->Fml w' u f:=by
 obtain⟨ad,c,vf,vs,uf,ur,hc1,hc2,hlt,d0,d1,d2,d3,q0,q1,q2,q3,q4,_,⟨Ar,cr,rfl,hir⟩⟩:=h.line hi;obtain⟨adr,rfl,hbr,hcr⟩:=hir.2.2 (by intro e;rw [e]at hk;simp at hk);have r0:=hcr k j hk;have hkl:k < n.from_.length:=(List.getElem?_eq_some_iff.1 hk).1;have hrc:=hir.1;have hrm:=hir.2.1;unfold maxLen at hrm;have hil:i < ls.length:=(List.getElem?_eq_some_iff.1 hi).1;have H:=Qq h;have HST:=Qq hst;clear h hi hk hir hcr hst;go_enter Tryz.func194,Tryz.ntmps194;go_wp2_with fail;refine(Ue H.out i j his).mono ?_;rintro e w1 ⟨u,rfl,hx1,hr1⟩;have HX1:=Qq hx1;have HR1:=Qq hr1;clear hx1 hr1;cases hw:Yl st i j with
 |none =>
  have HL:Hid (Xt ls fs st i j=none):=Qq (by unfold Xt;rw [hw]);clear HR1 hw;go_wp2_with fail;go_ret2;exact⟨_,by rw [HL.out];rfl,HX1.out,fun f hf=>by rw [HL.out]at hf;cases hf⟩
 |some r =>
  have HI:=Qq (HR1.out r hw);obtain⟨hr1,hr2⟩:=Fw HST.out hw his;have HR2:=Qq hr2;have HW:=Qq hw;clear HR1 hw hr2;go_wp2_with fail;refine(Uo (H.out.ext HX1.out) u r HI.out HR2.out hr1).mono ?_;rintro e w2 ⟨ub,rfl,hmb⟩;obtain⟨Ab,cb,rfl,_⟩:=hmb.ints;have HX2:=Qq (HX1.out.trans hmb.2);clear hmb;by_cases hbx:(Jv ls r).length=0
  ·have hemp:Jv ls r= []:=List.length_eq_zero_iff.1 hbx;have hj:¬(j < 0\/(i:Int)<=j):=fun e=>by
    have:=HW.out;unfold Yl at this;rw [if_pos e]at this;cases this
   obtain⟨jn,rfl⟩:=Int.eq_ofNat_of_zero_le (show 0<=j by omega);have hjf:jn < fs.length:=by omega
   have HL:Hid (Xt ls fs st i (jn:Int)=some (fs.getD jn [])):=Qq (by unfold Xt;rw [HW.out];simp [hemp]);have ef:fs[jn]?=some (fs.getD jn []):=by rw [Qk,Qv hjf];rfl
   obtain⟨ad2,c2,vl2,vs2,Ai,ci,g1,g2,g3,g4,g5,g6,g7,g8,g9⟩:=(H.out.ext HX2.out).form ef;have HF:=Qq g9;rw [hbx];clear hemp hj ef g9 hbx;generalize fs.getD jn []=fj at HL HF g8;go_wp2_with fail;go_ret2;exact⟨_,by rw [HL.out];rfl,HX2.out,fun f hf=>by rw [HL.out]at hf;injection hf with hf;subst hf;exact HF.out⟩
  have hpos0:0 < (Jv ls r).length:=by omega
  have HL:Hid (Xt ls fs st i j=none):=Qq (by
   unfold Xt;rw [HW.out];cases e:Jv ls r with
   |nil=>rw [e]at hbx;simp at hbx
   |cons a t=>simp [e])
  clear hbx;go_wp2_with fail;go_ret2;exact⟨_,by rw [HL.out];rfl,HX2.out,fun f hf=>by rw [HL.out]at hf;cases hf⟩
theorem Ge {w:World} {b:Nat} {lg:Int} {ls:List Ln} {fs:List (List Nd)} {st:List (List Int)}(h:Chk w b lg ls fs st)(i:Nat)(n:Ln)(m:Nat)(hi:ls[i]?=some n):
 Calls Tryz.prog 193 #[.pointer (some ⟨b,0,none⟩),.int .i64 i,.int .i64 (m:Int)] w fun e w'=>e=.returned (.bool (decide (n.from_.length=m)))/\Ext w w':=by
 obtain⟨ad,c,vf,vs,uf,ur,hc1,hc2,hlt,d0,d1,d2,d3,q0,q1,q2,q3,q4,_,⟨Ar,cr,rfl,hir⟩⟩:=h.line hi;have hil:i < ls.length:=(List.getElem?_eq_some_iff.1 hi).1;have hr1:=hir.1;have hr2:=hir.2.1;unfold maxLen at hr2;have HB:=Qq (show((n.from_.length:Int)==(m:Int))=decide (n.from_.length=m) by
  by_cases e:n.from_.length=m
  ·simp [e]
  rw [decide_eq_false e,beq_eq_false_iff_ne];omega)
 clear h hi hir;go_enter Tryz.func193,Tryz.ntmps193;go_wp2_with fail;go_ret;exact⟨Qr HB.out,Qz⟩
def eqN(a b:List Nd):Bool:=decide (0 < a.length)&&decide (a=b)
theorem Zs(v1 v2:Value)(l1 l2:List Nd)(w:World)(h1:Nds w v1 l1)(h2:Nds w v2 l2):
 Calls Tryz.prog 69 #[v1,v2] w fun e w'=>e=.returned (.bool (eqN l1 l2))/\Ext w w':=by
 have H1:=Qq h1;have H2:=Qq h2;obtain⟨A1,c1,rfl,hcap1,hmax1,_⟩:=h1;unfold maxLen at hmax1;clear h2;by_cases h0:l1.length=0
 ·have HE:=Qq (show eqN l1 l2=false by simp [eqN,h0]);rw [h0];rw [h0]at H1;clear h0;go_enter Tryz.func69,Tryz.ntmps69;go_wp2_with fail;go_ret;exact⟨Qr HE.out.symm,Qz⟩
 have hp:0 < l1.length:=by omega
 have HE:=Qq (show eqN l1 l2=decide (l1=l2) by simp [eqN,hp]);clear h0;go_enter Tryz.func69,Tryz.ntmps69;go_wp2_with(go_at_call 39;refine(Hb _ _ l1 l2 _ H1.out H2.out).mono ?_;rintro e w3 ⟨rfl,hb3⟩);go_ret;exact⟨Qr HE.out.symm,hb3⟩
def Ub(f:List Nd)(op:Int):Option (List Nd×List Nd):=bif (Qt f).op==op then some (Zh f (Qt f).x,Zh f (Qt f).y)else none
theorem Sz(v:Value)(f:List Nd)(op:Int)(w:World)(h:Fml w v f)(h0:0 < f.length):
 Calls Tryz.prog 197 #[v,.int .i64 op] w fun e w'=>∃u1 u2,e=.returned (.tuple #[u1,u2,.bool (Ub f op).isSome])/\Ext w w'/\∀r,Ub f op=some r->Fml w' u1 r.1/\Fml w' u2 r.2:=by
 have H:=Qq h;obtain⟨⟨A,c,rfl,hcap,hmax,hread⟩,hok⟩:=h;unfold maxLen at hmax;obtain⟨ad,rfl,hlt,hcells⟩:=hread (by intro e;rw [e]at h0;simp at h0);have hlast:=Xi h0;obtain⟨c0,c1,c2,c3,c4,c5⟩:=hcells _ _ hlast;have hi1:((f.length:Int) - 1) < (f.length:Int):=by omega
 have hi0:(0:Int)<=(f.length:Int) - 1:=by omega
 have e1:((f.length:Int) - 1).toNat=f.length - 1:=by omega
 clear hread hok hcells hlast;obtain⟨nn,hnn⟩:∃nn,nn=Qt f:=⟨_,rfl⟩;rw [<-hnn]at c0 c1 c2 c3 c4 c5;have HNN:=Qq hnn;clear hnn;by_cases hop:nn.op=op
 ·have eb:(nn.op !=op)=false:=by simp [hop]
  have HP:=Qq (show Ub f op=some (Zh f nn.x,Zh f nn.y) by unfold Ub;rw [<-HNN.out];simp [hop]);clear hop;go_enter Tryz.func197,Tryz.ntmps197;go_wp2_with fail;go_region_with (first|(go_at_call_of 43 (Value.int IntKind.i64 nn.x);refine(Ut _ f nn.x _ (by exact H.out.ext (by repeat(first|exact Qz|assumption|apply Ext.alloc|apply Ext.drew)))).mono ?_;rintro e wa ⟨ua,rfl,hma⟩;have MA:=Qq hma;have hxa:Ext w wa:=Ext.trans (by repeat(first|exact Qz|assumption|apply Ext.alloc|apply Ext.drew)) hma.2.2;obtain⟨hca,_,hza0⟩:=hma.2.2.facts;have hza:w.heap.size < wa.heap.size:=(by first|omega|(simp at hza0;omega));clear hma hza0)|(go_at_call_of 43 (Value.int IntKind.i64 nn.y);refine(Ut _ f nn.y _ (by exact H.out.ext (by repeat(first|exact Qz|assumption|apply Ext.alloc|apply Ext.drew)))).mono ?_;rintro e wb ⟨ub,rfl,hmb⟩;have MB:=Qq hmb;have hxb:Ext w wb:=Ext.trans (by repeat(first|exact Qz|assumption|apply Ext.alloc|apply Ext.drew)) hmb.2.2;obtain⟨hcb,_,hzb0⟩:=hmb.2.2.facts;have hzb:w.heap.size < wb.heap.size:=(by first|omega|(simp at hzb0;omega));clear hmb hzb0))
  all_goals
   go_wp2_with fail;go_ret3;refine⟨_,_,by rw [HP.out];rfl,by assumption,fun r hr=> ?_⟩;rw [HP.out]at hr;injection hr with hr;subst hr
   first|exact⟨(MA.out.after MB.out.2.2).fml,MB.out.fml⟩|exact⟨MA.out.fml,(MB.out.after MA.out.2.2).fml⟩
 have eb:(nn.op !=op)=true:=by simpa using hop
 have eb2:(nn.op==op)=false:=by simpa using hop
 have HP:=Qq (show Ub f op=none by unfold Ub;rw [<-HNN.out,eb2];rfl);clear hop;go_enter Tryz.func197,Tryz.ntmps197;go_wp2_with fail;go_ret3;exact⟨_,_,by rw [HP.out];rfl,Qz.alloc _,fun r hr=>by rw [HP.out]at hr;cases hr⟩
def Ko(ls:List Ln)(fs:List (List Nd))(st:List (List Int))(i:Nat)(n:Ln):Option (List Nd):=
 bif decide (n.from_.length=1)then Xt ls fs st i (n.from_.getD 0 0)else none
def Dj(ls:List Ln)(fs:List (List Nd))(st:List (List Int))(i:Nat)(n:Ln):Option (List Nd×List Nd):=
 bif decide (n.from_.length=2)then
  match Xt ls fs st i (n.from_.getD 0 0),Xt ls fs st i (n.from_.getD 1 0)with
  |some x,some y=>some (x,y)
  |_,_=>none
 else none
theorem Ss {n:Ln} {k:Nat}(h:k < n.from_.length):n.from_[k]?=some (n.from_.getD k 0):=by
 rw [Qk,Qv h];rfl
theorem Sk {w:World} {b:Nat} {lg:Int} {ls:List Ln} {fs:List (List Nd)} {st:List (List Int)}(h:Chk w b lg ls fs st)(hst:Qv2 ls st)(i:Nat)(n:Ln)(hi:ls[i]?=some n)(his:i < st.length)(hif:i<=fs.length):
 Calls Tryz.prog 196 #[.pointer (some ⟨b,0,none⟩),.int .i64 i] w fun e w'=>∃u,e=.returned (.tuple #[u,.bool (Ko ls fs st i n).isSome])/\Ext w w'/\∀f,Ko ls fs st i n=some f->Fml w' u f:=by
 have H:=Qq h;have HST:=Qq hst;have HI:=Qq hi;clear h hst hi;have HN:=Qq (fun w (h:Chk w b lg ls fs st)=>Ge h i n 1 HI.out);cases hd:decide (n.from_.length=1)
 ·have HO:=Qq (show Ko ls fs st i n=none by unfold Ko;rw [hd];rfl);have HD:=Qq hd;clear hd;go_enter Tryz.func196,Tryz.ntmps196;go_wp2_with fail;refine(HN.out _ H.out).mono ?_;rintro e w1 ⟨rfl,hx⟩;rw [HD.out];go_wp2_with fail;go_ret2;exact⟨_,by rw [HO.out];rfl,hx,fun f hf=>by rw [HO.out]at hf;cases hf⟩
 obtain⟨j,hj,ho⟩:∃j,n.from_[0]?=some j/\Ko ls fs st i n=Xt ls fs st i j:=⟨_,Ss (n:=n) (k:=0) (by have:=of_decide_eq_true hd;omega),by unfold Ko;rw [hd];rfl⟩;have HO:=Qq ho;have HK:=Qq hj;clear ho hj;have HD:=Qq hd;clear hd;go_enter Tryz.func196,Tryz.ntmps196;go_wp2_with fail;refine(HN.out _ H.out).mono ?_;rintro e w1 ⟨rfl,hx⟩;rw [HD.out];have HX:=Qq hx;clear hx;go_wp2_with fail;refine(Mz (H.out.ext HX.out) HST.out i 0 n _ HI.out HK.out his hif).mono ?_;rintro e w2 ⟨u,rfl,hx2,hf2⟩;have HX2:=Qq (HX.out.trans hx2);have HF2:=Qq hf2;clear hx2 hf2;go_wp2_with fail;go_ret2;exact⟨u,by rw [HO.out];rfl,HX2.out,fun f hf=>HF2.out f (by rw [<-HO.out];exact hf)⟩
structure Vb (ls:List Ln) (fs:List (List Nd)) (st:List (List Int)) (i:Nat) (n:Ln) (fi:List Nd):Prop where
 st_ok:Qv2 ls st
 n_at:ls[i]?=some n
 f_at:fs[i]?=some fi
 st_lt:i < st.length
 fs_ok:∀f∈fs,0 < f.length/\Wf f
 ag:∀(k:Nat) (m:Ln),k < fs.length->ls[k]?=some m->Jc m.agent
 op:∀(k:Nat) (m:Ln) (s:List Int),ls[k]?=some m->st[k]?=some s->Kk m=true->0 < s.length
theorem Vb.fs_le {ls:List Ln} {fs:List (List Nd)} {st:List (List Int)} {i:Nat} {n:Ln} {fi:List Nd}(h:Vb ls fs st i n fi):i<=fs.length:=Nat.le_of_lt (List.getElem?_eq_some_iff.1 h.f_at).1
theorem Wr {w:World} {b:Nat} {lg:Int} {ls:List Ln} {fs:List (List Nd)} {st:List (List Int)} {i:Nat} {n:Ln} {fi:List Nd}(h:Chk w b lg ls fs st)(ok:Vb ls fs st i n fi):
 Calls Tryz.prog 195 #[.pointer (some ⟨b,0,none⟩),.int .i64 i] w fun e w'=>∃u1 u2,e=.returned (.tuple #[u1,u2,.bool (Dj ls fs st i n).isSome])/\Ext w w'/\∀r,Dj ls fs st i n=some r->Fml w' u1 r.1/\Fml w' u2 r.2:=by
 have H:=Qq h;have OK:=Qq ok;clear h ok;cases hd:decide (n.from_.length=2)
 ·have HO:=Qq (show Dj ls fs st i n=none by unfold Dj;rw [hd];rfl);have HD:=Qq hd;clear hd;go_enter Tryz.func195,Tryz.ntmps195;go_wp2_with fail;refine(Ge H.out i n 2 OK.out.n_at).mono ?_;rintro e w1 ⟨rfl,hx⟩;rw [HD.out];go_wp2_with fail;go_ret3;exact⟨.slice none 0 0,.slice none 0 0,by rw [HO.out];rfl,hx,fun f hf=>by rw [HO.out]at hf;cases hf⟩
 obtain⟨j1,j2,hj1,hj2,ho⟩:∃j1 j2,n.from_[0]?=some j1/\n.from_[1]?=some j2/\Dj ls fs st i n=(match Xt ls fs st i j1,Xt ls fs st i j2 with
  |some x,some y=>some (x,y)
  |_,_=>none):=⟨_,_,Ss (n:=n) (k:=0) (by have:=of_decide_eq_true hd;omega),Ss (n:=n) (k:=1) (by have:=of_decide_eq_true hd;omega),by unfold Dj;rw [hd];rfl⟩
 have HO:=Qq ho;have HK1:=Qq hj1;have HK2:=Qq hj2;have HD:=Qq hd;clear ho hj1 hj2 hd;go_enter Tryz.func195,Tryz.ntmps195;go_wp2_with fail;refine(Ge H.out i n 2 OK.out.n_at).mono ?_;rintro e w1 ⟨rfl,hx⟩;rw [HD.out];have HX:=Qq hx;clear hx;go_wp2_with fail;refine(Mz (H.out.ext HX.out) OK.out.st_ok i 0 n _ OK.out.n_at HK1.out OK.out.st_lt OK.out.fs_le).mono ?_;rintro e w2 ⟨u1,rfl,hx2,hf2⟩;have HX2:=Qq (HX.out.trans hx2);have HF2:=Qq hf2;clear hx2 hf2;go_wp2_with fail;refine(Mz (H.out.ext HX2.out) OK.out.st_ok i 1 n _ OK.out.n_at HK2.out OK.out.st_lt OK.out.fs_le).mono ?_;rintro e w3 ⟨u2,rfl,hx3,hf3⟩
 have HX3:=Qq (HX2.out.trans hx3);have HX23:=Qq hx3;have HF3:=Qq hf3;clear hx3 hf3;cases e1:Xt ls fs st i j1 with
 |none =>
  have HN:Hid (Dj ls fs st i n=none):=Qq (by rw [HO.out,e1]);clear HF2;clear e1;go_wp2_with fail;go_ret3;exact⟨u1,u2,by rw [HN.out];rfl,HX3.out,fun f hf=>by rw [HN.out]at hf;cases hf⟩
 |some x =>
  have HFx:=Qq (HF2.out x e1);cases e2:Xt ls fs st i j2 with
  |none =>
   have HN:Hid (Dj ls fs st i n=none):=Qq (by rw [HO.out,e1,e2]);clear HF2 HF3 e1 e2;go_wp2_with fail;go_ret3;exact⟨u1,u2,by rw [HN.out];rfl,HX3.out,fun f hf=>by rw [HN.out]at hf;cases hf⟩
  |some y =>
   have HFy:=Qq (HF3.out y e2);have HN:Hid (Dj ls fs st i n=some (x,y)):=Qq (by rw [HO.out,e1,e2]);clear HF2 HF3 e1 e2;go_wp2_with fail;go_ret3;exact⟨u1,u2,by rw [HN.out];rfl,HX3.out,fun f hf=>by rw [HN.out]at hf;injection hf with hf;subst hf;exact⟨HFx.out.ext HX23.out,HFy.out⟩⟩
def Tj(st:List (List Int))(o:Int)(i:Nat):Nat->Nat->Nat
 |0,l=>l
 |k+1,l=>bif decide (l+1 < i)&&decide (o∈st.getD (l+1) [])then Tj st o i k (l+1)else l
def Gp(st:List (List Int))(o:Nat)(i:Nat):Nat:=Tj st o i i o
def Co(ls:List Ln)(st:List (List Int))(i o:Nat):Bool :=
 decide ((st.getD i []).take ((st.getD o []).length - 1)=(st.getD o []).take ((st.getD o []).length - 1))&&(!decide ((o:Int)∈st.getD i [])&&((Jv ls ((st.getD i []).drop ((st.getD o []).length - 1))).isEmpty &&
  decide ((st.getD (Gp st o i) []).length=(st.getD o []).length)))
def Bx(ls:List Ln)(fs:List (List Nd))(st:List (List Int))(i:Nat)(o:Int):Option (Int×List Nd):=
 if o < 0\/(i:Int)<=o then none else bif Kk (Js ls o)&&Co ls st i o.toNat then some (o,fs.getD (Gp st o.toNat i) [])else none
def Kg(ls:List Ln)(fs:List (List Nd))(st:List (List Int))(i:Nat)(o:Int):Option (List Nd×List Nd):=
 match Bx ls fs st i o with
 |none=>none
 |some r=>bif (Js ls r.1).rule==1 then some (fs.getD r.1.toNat [],r.2)else none
def Zn(n:Ln)(k:Nat):Int:=n.from_.getD k 0
def Tm(ls:List Ln)(fs:List (List Nd))(st:List (List Int))(i:Nat)(n:Ln):Option (List Nd×List Nd):=bif decide (n.from_.length=1)then Kg ls fs st i (Zn n 0)else none
def Xf(ls:List Ln)(fs:List (List Nd))(st:List (List Int))(i:Nat)(n:Ln):Option (List Nd):=
 match Tm ls fs st i n with
 |none=>none
 |some r=>bif eqN r.2 Dv then some r.1 else none
def inL(l:List Int)(lg:Int):Bool:=decide (lg∈l)
def Cz(_lg:Int)(ls:List Ln)(fs:List (List Nd))(st:List (List Int))(i:Nat)(n:Ln)(fi:List Nd):Bool :=
 match Ko ls fs st i n with|none=>false|some x=>eqN x fi
def Qzr(_lg:Int)(ls:List Ln)(fs:List (List Nd))(st:List (List Int))(i:Nat)(n:Ln)(fi:List Nd):Bool :=
 match Dj ls fs st i n with|none=>false|some r=>eqN (Vi r.1 r.2) fi
def Lf(_lg:Int)(ls:List Ln)(fs:List (List Nd))(st:List (List Int))(i:Nat)(n:Ln)(fi:List Nd):Bool :=
 match Ko ls fs st i n with|none=>false|some f=>(match Ub f 5 with|none=>false|some r=>eqN r.1 fi||eqN r.2 fi)
def Oy(_lg:Int)(ls:List Ln)(fs:List (List Nd))(st:List (List Int))(i:Nat)(n:Ln)(fi:List Nd):Bool :=
 match Ko ls fs st i n with|none=>false|some f=>(match Ub fi 6 with|none=>false|some r=>eqN r.1 f||eqN r.2 f)
def Dx(_lg:Int)(ls:List Ln)(fs:List (List Nd))(st:List (List Int))(i:Nat)(n:Ln)(fi:List Nd):Bool :=
 bif decide (n.from_.length=3)then
  match Xt ls fs st i (Zn n 0)with
  |none=>false
  |some f=>match Ub f 6,Kg ls fs st i (Zn n 1),Kg ls fs st i (Zn n 2)with
   |some r,some a,some b=>eqN a.1 r.1&&(eqN b.1 r.2&&(eqN a.2 fi&&eqN b.2 fi))
   |_,_,_=>false
 else false
def Az(_lg:Int)(ls:List Ln)(fs:List (List Nd))(st:List (List Int))(i:Nat)(n:Ln)(fi:List Nd):Bool :=
 match Tm ls fs st i n with|none=>false|some r=>eqN (Ya r.1 r.2) fi
def Wt(_lg:Int)(ls:List Ln)(fs:List (List Nd))(st:List (List Int))(i:Nat)(n:Ln)(fi:List Nd):Bool :=
 match Dj ls fs st i n with|none=>false|some r=>eqN (Ya r.1 fi) r.2
def Qzj(_lg:Int)(ls:List Ln)(fs:List (List Nd))(st:List (List Int))(i:Nat)(n:Ln)(fi:List Nd):Bool :=
 match Xf ls fs st i n with|none=>false|some x=>eqN (Vt x) fi
def Pi(_lg:Int)(ls:List Ln)(fs:List (List Nd))(st:List (List Int))(i:Nat)(n:Ln)(fi:List Nd):Bool :=
 match Dj ls fs st i n with|none=>false|some r=>eqN (Vt r.1) r.2&&eqN fi Dv
def Oq(_lg:Int)(ls:List Ln)(fs:List (List Nd))(st:List (List Int))(i:Nat)(n:Ln)(fi:List Nd):Bool :=
 match Xf ls fs st i n with|none=>false|some x=>eqN (Vt fi) x
def To(_lg:Int)(ls:List Ln)(fs:List (List Nd))(st:List (List Int))(i:Nat)(n:Ln)(_fi:List Nd):Bool :=
 match Ko ls fs st i n with|none=>false|some x=>eqN x Dv
def Wn(_lg:Int)(_ls:List Ln)(_fs:List (List Nd))(_st:List (List Int))(_i:Nat)(n:Ln)(fi:List Nd):Bool :=
 decide (n.from_.length=0)&&eqN fi Db
def Cp(_lg:Int)(ls:List Ln)(fs:List (List Nd))(st:List (List Int))(i:Nat)(n:Ln)(fi:List Nd):Bool :=
 match Dj ls fs st i n with
 |some r=>(match Ub fi 8 with|none=>false|some s=>eqN (Ya s.1 s.2) r.1&&eqN (Ya s.2 s.1) r.2)
 |none=>match Ko ls fs st i n with
  |none=>false
  |some f=>match Ub f 8 with|none=>false|some s=>eqN (Ya s.1 s.2) fi||eqN (Ya s.2 s.1) fi
def Lt(_lg:Int)(ls:List Ln)(fs:List (List Nd))(st:List (List Int))(i:Nat)(n:Ln)(fi:List Nd):Bool :=
 bif decide (n.from_.length=1)then
  match Bx ls fs st i (Zn n 0)with
  |none=>false
  |some r=>(Js ls r.1).rule==2&&eqN (Yy (Js ls r.1).agent r.2) fi
 else false
def Qq3(f:List Nd):Nd:=bif (Qt f).op==4 then f.getD (Qt f).x.toNat Nd.zero else Qt f
def Gk(lg:Int)(f:List Nd)(a:Int)(fi:List Nd):Bool :=
 bif (Qt f).op==9&&(Qt f).i==a then eqN (Zh f (Qt f).x) fi||(inL [3,4,5,6] lg&&eqN f fi)
 else bif ((Qt f).op==10&&(Qt f).i==a)||((Qt f).op==4&&((Qq3 f).op==9&&(Qq3 f).i==a))then inL [5,6] lg&&eqN f fi else false
def Ex(lg:Int)(ls:List Ln)(fs:List (List Nd))(st:List (List Int))(i:Nat)(n:Ln)(fi:List Nd):Bool :=
 bif decide (n.from_.length=1)then
  match Yl st i (Zn n 0)with
  |none=>false
  |some r=>match Jv ls r with
   |[o]=>Gk lg (fs.getD (Zn n 0).toNat []) (Js ls o).agent fi
   |_=>false
 else false
def Cf(lg:Int)(ls:List Ln)(fs:List (List Nd))(st:List (List Int))(i:Nat)(n:Ln)(fi:List Nd):Bool :=
 match Ko ls fs st i n with|none=>false|some f=>bif inL [2,4,6] lg then(match Ub f 9 with|none=>false|some r=>eqN r.1 fi)else false
def Lb(f g:List Nd):Bool:=bif (Qt f).op==10 then eqN (Vt (Yy (Qt f).i (Vt (Zh f (Qt f).x)))) g else false
def Qzz(_lg:Int)(ls:List Ln)(fs:List (List Nd))(st:List (List Int))(i:Nat)(n:Ln)(fi:List Nd):Bool :=
 match Ko ls fs st i n with|none=>false|some f=>Lb f fi||Lb fi f
def Ls(lg:Int)(ls:List Ln)(fs:List (List Nd))(st:List (List Int))(i:Nat)(n:Ln)(fi:List Nd):Bool :=
 match Ko ls fs st i n with|none=>false|some f=>bif inL [1,5] lg then(Qt f).op==9&&eqN (Cr (Qt f).i (Zh f (Qt f).x)) fi else false
theorem Chk.blt {w:World} {b:Nat} {lg:Int} {ls:List Ln} {fs:List (List Nd)} {st:List (List Int)}(h:Chk w b lg ls fs st):b < w.heap.size:=by
 obtain⟨_,_,_,hb,_⟩:=h.all;exact Qm hb
theorem Qcr {ls:List Ln} {fs:List (List Nd)} {st:List (List Int)} {i:Nat} {n:Ln}(h:decide (n.from_.length=1)=false):Ko ls fs st i n=none:=by unfold Ko;rw [h];rfl
theorem Qlk {ls:List Ln} {fs:List (List Nd)} {st:List (List Int)} {i:Nat} {n:Ln}(h:decide (n.from_.length=1)=true):n.from_[0]?=some (Zn n 0)/\Ko ls fs st i n=Xt ls fs st i (Zn n 0):=
 ⟨Ss (by have:=of_decide_eq_true h;omega),by unfold Ko Zn;rw [h];rfl⟩
theorem Qg5 {ls:List Ln} {fs:List (List Nd)} {st:List (List Int)} {i:Nat} {n:Ln}(h:decide (n.from_.length=1)=false):Tm ls fs st i n=none:=by unfold Tm;rw [h];rfl
theorem Qkm {ls:List Ln} {fs:List (List Nd)} {st:List (List Int)} {i:Nat} {n:Ln}(h:decide (n.from_.length=1)=true):n.from_[0]?=some (Zn n 0)/\Tm ls fs st i n=Kg ls fs st i (Zn n 0):=
 ⟨Ss (by have:=of_decide_eq_true h;omega),by unfold Tm;rw [h];rfl⟩
theorem Fs {n:Ln} {k m:Nat}(h:decide (n.from_.length=m)=true)(hk:k < m):n.from_[k]?=some (Zn n k):=Ss (by have:=of_decide_eq_true h;omega)
theorem Qyz {ls:List Ln} {fs:List (List Nd)} {st:List (List Int)} {i:Nat} {j:Int} {f:List Nd}(h:Xt ls fs st i j=some f)(hif:i<=fs.length):f∈fs:=by
 unfold Xt at h
 split at h
 ·cases h
 rename_i r hr;have hj:¬(j < 0\/(i:Int)<=j):=fun e=>by unfold Yl at hr;rw [if_pos e]at hr;cases hr
 cases hb:(Jv ls r).isEmpty
 ·rw [hb]at h;cases h
 rw [hb]at h;injection h with h;subst h;rw [Qk,List.getElem?_eq_getElem (show j.toNat < fs.length by omega)];exact List.getElem_mem _
theorem Lh {ls:List Ln} {fs:List (List Nd)} {st:List (List Int)} {i:Nat} {n:Ln} {f:List Nd}(h:Ko ls fs st i n=some f)(hif:i<=fs.length):f∈fs:=by
 unfold Ko at h;cases hd:decide (n.from_.length=1)
 ·rw [hd]at h;cases h
 rw [hd]at h;exact Qyz h hif
theorem Qd6 {w:World} {b:Nat} {lg:Int} {ls:List Ln} {fs:List (List Nd)} {st:List (List Int)} {i:Nat} {n:Ln} {fi:List Nd}(h:Chk w b lg ls fs st)(ok:Vb ls fs st i n fi):
 Calls Tryz.prog 175 #[.pointer (some ⟨b,0,none⟩),.int .i64 i] w fun e w'=>e=.returned (.bool (Cz lg ls fs st i n fi))/\Ext w w':=by
 have H:=Qq h;have OK:=Qq ok;have HX0:=Qq (Ext.refl w);clear h ok;go_enter Tryz.func175,Tryz.ntmps175;go_wp2_with fail;refine(Ge (H.out.ext HX0.out) i n 1 OK.out.n_at).mono ?_;rintro e w1 ⟨rfl,hx⟩;have HX1:=Qq (HX0.out.trans hx);have HS1:=Qq hx;clear hx;cases hd:decide (n.from_.length=1)
 case false =>
  have D1:=Qq hd;clear hd;have OD1:Hid (Ko ls fs st i n=none):=Qq (Qcr D1.out);go_wp2_with fail;go_ret;exact⟨Qr (by simp only [Cz,OD1.out] <;> rfl),HX1.out⟩
 case true =>
  have D1:=Qq hd;clear hd;have D1p:=Qq (Qlk (ls:=ls) (fs:=fs) (st:=st) (i:=i) D1.out);go_wp2_with fail;refine(Mz (H.out.ext HX1.out) OK.out.st_ok i 0 n _ OK.out.n_at D1p.out.1 OK.out.st_lt OK.out.fs_le).mono ?_;rintro e w2 ⟨ux0,rfl,hx,hf⟩;have HX2:=Qq (HX1.out.trans hx);have HS2:=Qq hx;clear hx;have HF2:=Qq hf;clear hf;cases hd:Xt ls fs st i (Zn n 0)with
  |none =>
   have D3:=Qq hd;clear hd;have OD3:Hid (Ko ls fs st i n=none):=Qq (D1p.out.2.trans D3.out);go_wp2_with fail;go_ret;exact⟨Qr (by simp only [Cz,OD3.out] <;> rfl),HX2.out⟩
  |some x =>
   have D3:=Qq hd;have Vx:=Qq (HF2.out _ hd);clear hd;have OD3:Hid (Ko ls fs st i n=some x):=Qq (D1p.out.2.trans D3.out);obtain⟨ad,c,vl,vs,Ai,ci,g1,g2,g3,g4,g5,g6,g7,g8,g9⟩:=(H.out.ext HX2.out).form OK.out.f_at;have GB:=(H.out.ext HX2.out).blt;have GI:i < fs.length:=(List.getElem?_eq_some_iff.1 OK.out.f_at).1;have GF:=Qq g9;clear g4 g5 g7 g9;go_wp2_with fail;refine(Zs ux0 _ x fi _ (Vx.out.ext Qz).1 ((GF.out.ext Qz)).1).mono ?_;rintro e w3 ⟨rfl,hx⟩;have HX3:=Qq (HX2.out.trans hx);have HS3:=Qq hx;clear hx;go_wp2_with fail;go_ret;exact⟨Qr (by simp only [Cz,OD3.out] <;> rfl),HX3.out⟩
theorem Qrz {w:World} {b:Nat} {lg:Int} {ls:List Ln} {fs:List (List Nd)} {st:List (List Int)} {i:Nat} {n:Ln} {fi:List Nd}(h:Chk w b lg ls fs st)(ok:Vb ls fs st i n fi):
 Calls Tryz.prog 176 #[.pointer (some ⟨b,0,none⟩),.int .i64 i] w fun e w'=>e=.returned (.bool (Qzr lg ls fs st i n fi))/\Ext w w':=by
 have H:=Qq h;have OK:=Qq ok;have HX0:=Qq (Ext.refl w);clear h ok;go_enter Tryz.func176,Tryz.ntmps176;go_wp2_with fail;refine(Wr (H.out.ext HX0.out) OK.out).mono ?_;rintro e w1 ⟨ur0,ur1,rfl,hx,hf⟩;have HX1:=Qq (HX0.out.trans hx);have HS1:=Qq hx;clear hx;have HF1:=Qq hf;clear hf;cases hd:Dj ls fs st i n with
 |none =>
  have D2:=Qq hd;clear hd;go_wp2_with fail;go_quiet (fail);go_wp2_with fail;go_ret;exact⟨Qr (by simp only [Qzr,D2.out] <;> rfl),HX1.out.drewN _⟩
 |some r =>
  have D2:=Qq hd;have Vr:=Qq (HF1.out _ hd);clear hd;obtain⟨ad,c,vl,vs,Ai,ci,g1,g2,g3,g4,g5,g6,g7,g8,g9⟩:=(H.out.ext HX1.out).form OK.out.f_at;have GB:=(H.out.ext HX1.out).blt;have GI:i < fs.length:=(List.getElem?_eq_some_iff.1 OK.out.f_at).1;have GF:=Qq g9;clear g4 g5 g7 g9;go_wp2_with fail;go_region_with (first|(go_at_call 115;refine(Bc _ _ r.1 r.2 _ (by exact Vr.out.1.ext (by repeat(first|exact Qz|assumption|apply Ext.alloc|apply Ext.drew))) (by exact Vr.out.2.ext (by repeat(first|exact Qz|assumption|apply Ext.alloc|apply Ext.drew)))).mono ?_;rintro e wa ⟨ua,rfl,hma⟩;have MA:=Qq hma;have hxa:Ext w1 wa:=Ext.trans (by repeat(first|exact Qz|assumption|apply Ext.alloc|apply Ext.drew)) hma.2.2;have g6a:=(hxa.cell (p:=⟨b,2,none⟩) GB).trans g6;have g8a:=(hxa.cell (p:=ad.add i) (Qj g3)).trans g8;clear hma)|(go_at_call 69;refine(Zs _ _ (Vi r.1 r.2) fi _ (by exact(MA.out.fml.ext (by repeat(first|exact Qz|assumption|apply Ext.alloc|apply Ext.drew))).1) (by exact(GF.out.ext (by repeat(first|exact Qz|assumption|apply Ext.alloc|apply Ext.drew))).1)).mono ?_;rintro e wb ⟨rfl,hxb⟩;have hyb:Ext w1 wb:=Ext.trans (by repeat(first|exact Qz|assumption|apply Ext.alloc|apply Ext.drew)) hxb))
  all_goals
   go_wp2_with fail;go_ret;exact⟨Qr (by simp only [Qzr,D2.out] <;> rfl),HX1.out.trans hyb⟩
theorem Qbl {w:World} {b:Nat} {lg:Int} {ls:List Ln} {fs:List (List Nd)} {st:List (List Int)} {i:Nat} {n:Ln} {fi:List Nd}(h:Chk w b lg ls fs st)(ok:Vb ls fs st i n fi):
 Calls Tryz.prog 177 #[.pointer (some ⟨b,0,none⟩),.int .i64 i] w fun e w'=>e=.returned (.bool (Lf lg ls fs st i n fi))/\Ext w w':=by
 have H:=Qq h;have OK:=Qq ok;have HX0:=Qq (Ext.refl w);clear h ok;go_enter Tryz.func177,Tryz.ntmps177;go_wp2_with fail;refine(Sk (H.out.ext HX0.out) OK.out.st_ok i n OK.out.n_at OK.out.st_lt OK.out.fs_le).mono ?_;rintro e w1 ⟨ux0,rfl,hx,hf⟩;have HX1:=Qq (HX0.out.trans hx);have HS1:=Qq hx;clear hx;have HF1:=Qq hf;clear hf;cases hd:Ko ls fs st i n with
 |none =>
  have D2:=Qq hd;clear hd;go_wp2_with fail;go_ret;exact⟨Qr (by simp only [Lf,D2.out] <;> rfl),HX1.out⟩
 |some x =>
  have D2:=Qq hd;have Vx:=Qq (HF1.out _ hd);clear hd;go_wp2_with fail;refine(Sz ux0 x 5 _ (Vx.out.ext Qz) (OK.out.fs_ok _ (Lh D2.out OK.out.fs_le)).1).mono ?_;rintro e w2 ⟨ur0,ur1,rfl,hx,hf⟩;have HX2:=Qq (HX1.out.trans hx);have HS2:=Qq hx;clear hx;have HF3:=Qq hf;clear hf;cases hd:Ub x 5 with
  |none =>
   have D4:=Qq hd;clear hd;go_wp2_with fail;go_ret;exact⟨Qr (by simp only [Lf,D2.out,D4.out] <;> rfl),HX2.out⟩
  |some r =>
   have D4:=Qq hd;have Vr:=Qq (HF3.out _ hd);clear hd;obtain⟨ad,c,vl,vs,Ai,ci,g1,g2,g3,g4,g5,g6,g7,g8,g9⟩:=(H.out.ext HX2.out).form OK.out.f_at;have GB:=(H.out.ext HX2.out).blt;have GI:i < fs.length:=(List.getElem?_eq_some_iff.1 OK.out.f_at).1;have GF:=Qq g9;clear g4 g5 g7 g9;go_wp2_with fail;refine(Zs ur0 _ r.1 fi _ (Vr.out.1.ext Qz).1 ((GF.out.ext Qz)).1).mono ?_;rintro e w3 ⟨rfl,hx⟩;have HX3:=Qq (HX2.out.trans hx);have HS3:=Qq hx;clear hx;cases hd:eqN r.1 fi
   case false =>
    have D5:=Qq hd;clear hd;clear g1 g2 g3 g6 g8 GB GF GI;obtain⟨ad,c,vl,vs,Ai,ci,g1,g2,g3,g4,g5,g6,g7,g8,g9⟩:=(H.out.ext HX3.out).form OK.out.f_at;have GB:=(H.out.ext HX3.out).blt;have GI:i < fs.length:=(List.getElem?_eq_some_iff.1 OK.out.f_at).1;have GF:=Qq g9;clear g4 g5 g7 g9;go_wp2_with fail;refine(Zs ur1 _ r.2 fi _ (Vr.out.2.ext (Ext.trans Qz HS3.out)).1 ((GF.out.ext Qz)).1).mono ?_;rintro e w4 ⟨rfl,hx⟩;have HX4:=Qq (HX3.out.trans hx);have HS4:=Qq hx;clear hx;go_wp2_with fail;go_ret;exact⟨Qr (by simp only [Lf,D2.out,D4.out,D5.out] <;> rfl),HX4.out⟩
   case true =>
    have D5:=Qq hd;clear hd;go_wp2_with fail;go_ret;exact⟨Qr (by simp only [Lf,D2.out,D4.out,D5.out] <;> rfl),HX3.out⟩
end Go.Proofs.YtmidgcldljfkcaaGreatDoor
