/- What the program reckons at a node; plain. -/
import Derived.Test.YtmidgcldljfkcaaGreatDoorM01
import Derived.Test.YtmidgcldljfkcaaGreatDoorM16
import Derived.Test.YtmidgcldljfkcaaGreatDoorM21
import Derived.Test.YtmidgcldljfkcaaGreatDoorM12
namespace Go.Proofs.YtmidgcldljfkcaaGreatDoor
set_option maxRecDepth 100000
set_option maxHeartbeats 128000000
open Go.RowKit
theorem all_shr {N:Nat}(h:N<=64):(18446744073709551615:Int) / 2^(64 - N)=((allW N:Nat):Int):=by
 have e:∀k:Fin 65,(18446744073709551615:Int) / 2^(64 - k.val)=((allW k.val:Nat):Int):=by decide+kernel
 exact e ⟨N,by omega⟩
def fineP(md:Md)(n:Nd):Bool :=
 if n.op=3 then decide (n.i < md.val.length)else if n.op<=8 then true else if n.op<=10 then decide (n.i < md.rel.length)
 else if n.op<=13 then decide (n.g < ((2^md.rel.length:Nat):Int))else false
def valP(md:Md)(n:Nd)(x y:Nat):Nat:=if fineP md n=true then oneN md n x y else 0
theorem grpS_lt {rl:List (List Nat)} {n:Nat}(hw:∀r∈rl,∀s∈r,s < 2^n) {gn i s a:Nat} {meet:Bool}(hs:s < 2^n):grpS rl gn meet i s a < 2^n:=by
 unfold grpS
 split
 ·split
  ·exact Nat.lt_of_le_of_lt Nat.and_le_left hs
  refine Nat.or_lt_two_pow hs ?_;by_cases ha:a < rl.length
  ·have hm:rl.getD a []∈rl:=by rw [Qk,Qv ha];exact List.getElem_mem ha
   by_cases hi:i < (rl.getD a []).length
   ·refine hw _ hm _ ?_;rw [Qk (l:=rl.getD a []),Qv hi];exact List.getElem_mem hi
   rw [Qk (l:=rl.getD a []),List.getElem?_eq_none (by omega)];exact Nat.two_pow_pos n
  rw [Qk (l:=rl),List.getElem?_eq_none (by omega)];exact Nat.two_pow_pos n
 exact hs
theorem allW_lt(n:Nat):allW n < 2^n:=by
 unfold allW;have:=Nat.two_pow_pos n;omega
theorem grpN_lt {rl:List (List Nat)} {n:Nat}(hw:∀r∈rl,∀s∈r,s < 2^n) {gn i:Nat} {meet:Bool} :grpN rl gn meet n i < 2^n:=by
 unfold grpN;have:∀k,(List.range k).foldl (grpS rl gn meet i) (if meet then allW n else 0) < 2^n:=fun k=>by
  induction k with
  |zero =>
   cases meet
   ·exact Nat.two_pow_pos n
   exact allW_lt n
  |succ k ih=>rw [fold_snoc];exact grpS_lt hw ih
 exact this _
theorem check02_ok {r:List Nat} {N:Nat}(hl:r.length=N)(hN:N<=64)(h:∀s∈r,s < 2^N):check02 r.length r=0:=by
 have hb:beyondN r r.length=false:=List.any_eq_false.2 fun s hs=>by rw [hl];simpa using h s hs
 have:=valid_iff.2 ⟨by omega,hb⟩;unfold valid02 at this
 simpa using this
theorem row_low {md:Md}(h:checkM md=0):∀r∈md.rel,∀s∈r,s < 2^md.n.toNat:=fun r hr s hs=>by
 obtain⟨_,_,_,_,_,_,hlow⟩:=checkM_zero h;have:=List.any_eq_false.1 (hlow r hr) s hs
 simpa using this
theorem box_compl {r:List Nat} {n x:Nat}(hn:n<=64)(hb:∀u v,(r.getD u 0).testBit v=true->u < n/\v < n):boxN r n (allW 64^^^x)=boxN r n (difN (allW n) x):=by
 refine Nat.eq_of_testBit_eq fun i=> ?_
 rw [Bool.eq_iff_iff,box_bit,box_bit];refine and_congr_right fun _=>forall_congr' fun v=>imp_congr_right fun hv=> ?_
 have hv2:=(hb i v hv).2;rw [Nat.testBit_xor,allw_bit,dif_bit,allw_bit,decide_eq_true (show v < 64 by omega),decide_eq_true hv2];cases x.testBit v <;> simp
theorem rel_bits {md:Md}(h:checkM md=0)(a:Nat):∀u v,((md.rel.getD a []).getD u 0).testBit v=true->u < md.n.toNat/\v < md.n.toNat:=by
 intro u v hb;by_cases ha:a < md.rel.length
 ·have hm:md.rel.getD a []∈md.rel:=by
   rw [Qk,Qv ha];exact List.getElem_mem _
  obtain⟨hv,_⟩:=rel_valid h hm;have hl:=(checkM_zero h).2.2.2.2.1 _ hm;have hl2:(md.rel.getD a []).length=md.n.toNat:=by omega
  by_cases hu:u < md.n.toNat
  ·have:=(GrwI.start (eu:=true) hl2 (by rw [<-hl2];exact(valid_iff.1 hv).2)).lt u hu;exact⟨hu,bit_lt this hb⟩
  rw [Qk,List.getElem?_eq_none (by omega)]at hb;simp at hb
 have e:md.rel.getD a []= []:=by rw [Qk,List.getElem?_eq_none (by omega)];rfl
 rw [e]at hb;simp at hb
theorem grp_bits {md:Md}(h:checkM md=0)(gn:Nat):∀u v,(((List.range md.n.toNat).map (grpN md.rel gn false md.n.toNat)).getD u 0).testBit v=true->u < md.n.toNat/\v < md.n.toNat:=by
 intro u v hb;by_cases hu:u < md.n.toNat
 ·rw [grp_get _ _ _ _ _ hu,grp_bit]at hb;obtain⟨a,_,_,h3⟩:=hb;exact⟨hu,(rel_bits h a u v h3).2⟩
 rw [Qk,List.getElem?_eq_none (by simp;omega)]at hb;simp at hb
def IsW(md:Md)(s:Nat)(t:Tr):Prop:=∀w:Fin md.n.toNat,s.testBit w.1=true↔(kmOf md).sat t w
theorem box_sat {md:Md}(h:checkM md=0) {n:Nd} {s:Nat} {t:Tr}(hi:0<=n.i/\n.i < md.rel.length)(hs:IsW md s t)(h9:n.op=9):IsW md (boxN (md.rel.getD n.i.toNat []) md.n.toNat s) (.one n t):=by
 intro w;rw [box_bit];show _↔(if n.op=4 then _ else if n.op=9 then _ else _);rw [if_neg (by omega),if_pos h9];constructor
 ·rintro⟨_,hb⟩ v hv;refine(hs v).1 (hb v.1 ?_);have hv':(if 0<=n.i/\n.i < md.rel.length then bitR (md.rel.getD n.i.toNat []) md.n.toNat w v else w=v):=hv;rw [if_pos hi]at hv';exact hv'
 intro hf;refine⟨w.2,fun v hv=> ?_⟩;have hvn:=(rel_bits h n.i.toNat w.1 v hv).2;refine(hs ⟨v,hvn⟩).2 (hf ⟨v,hvn⟩ ?_);show(if 0<=n.i/\n.i < md.rel.length then bitR (md.rel.getD n.i.toNat []) md.n.toNat w ⟨v,hvn⟩else _);rw [if_pos hi];exact hv
theorem dia_sat {md:Md}(h:checkM md=0) {n:Nd} {s:Nat} {t:Tr}(hi:0<=n.i/\n.i < md.rel.length)(hs:IsW md s t)(h9:n.op=10):
 IsW md (difN (allW md.n.toNat) (boxN (md.rel.getD n.i.toNat []) md.n.toNat (difN (allW md.n.toNat) s))) (.one n t):=by
 intro w;rw [dia_bit _ _ _ _ (fun v hv=>(rel_bits h _ _ v hv).2)];show _↔(if n.op=4 then _ else if n.op=9 then _ else if n.op=10 then _ else _);rw [if_neg (by omega),if_neg (by omega),if_pos h9];constructor
 ·rintro⟨_,v,hv,hb⟩;have hvn:=(rel_bits h n.i.toNat w.1 v hv).2;refine⟨⟨v,hvn⟩,?_,(hs ⟨v,hvn⟩).1 hb⟩;show(if 0<=n.i/\n.i < md.rel.length then bitR (md.rel.getD n.i.toNat []) md.n.toNat w ⟨v,hvn⟩else _);rw [if_pos hi];exact hv
 rintro⟨v,hv,hb⟩;have hv':(if 0<=n.i/\n.i < md.rel.length then bitR (md.rel.getD n.i.toNat []) md.n.toNat w v else w=v):=hv;rw [if_pos hi]at hv';exact⟨w.2,v.1,hv',(hs v).2 hb⟩
theorem grp_agent {md:Md} {g:Int}(hg:g.toNat < 2^md.rel.length) {i:Nat}(hi:gbit g i=true):i < md.rel.length:=bit_lt hg hi
theorem kmR {md:Md} {i:Nat}(hi:i < md.rel.length)(u v:Fin md.n.toNat):(kmOf md).R (i:Int) u v↔((md.rel.getD i []).getD u.1 0).testBit v.1=true:=by
 show(if 0<=(i:Int)/\(i:Int) < md.rel.length then bitR (md.rel.getD (i:Int).toNat []) md.n.toNat u v else u=v)↔_;rw [if_pos (by omega),Int.toNat_natCast];rfl
theorem grp_sat {md:Md}(h:checkM md=0) {n:Nd} {s:Nat} {t:Tr}(hg:n.g.toNat < 2^md.rel.length)(hs:IsW md s t)(h9:n.op=11):
 IsW md (boxN ((List.range md.n.toNat).map (grpN md.rel n.g.toNat false md.n.toNat)) md.n.toNat s) (.one n t):=by
 intro w;rw [box_bit];show _↔(if n.op=4 then _ else if n.op=9 then _ else if n.op=10 then _ else if n.op=11 then _ else _);rw [if_neg (by omega),if_neg (by omega),if_neg (by omega),if_pos h9,grp_get _ _ _ _ _ w.2];have h4:=(checkM_zero h).2.2.1;constructor
 ·rintro⟨_,hb⟩ i hi hgi v hv;exact(hs v).1 (hb v.1 ((grp_bit ..).2 ⟨i,grp_agent hg hgi,hgi,(kmR (grp_agent hg hgi) w v).1 hv⟩))
 intro hf;refine⟨w.2,fun v hv=> ?_⟩;obtain⟨i,hi,hgi,hr⟩:=(grp_bit ..).1 hv;have hvn:=(rel_bits h i w.1 v hr).2;exact(hs ⟨v,hvn⟩).2 (hf i (by omega) hgi ⟨v,hvn⟩ ((kmR hi w ⟨v,hvn⟩).2 hr))
theorem step_words {md:Md}(h:checkM md=0) {g:Int} {c:Nat} {t:Tr}(hg:g.toNat < 2^md.rel.length)(hc:IsW md c t)(u v:Fin md.n.toNat):
 stpW ((List.range md.n.toNat).map (grpN md.rel g.toNat false md.n.toNat)) c u.1 v.1↔(kmOf md).step g ((kmOf md).sat t) u v:=by
 unfold stpW KM.step;rw [grp_get _ _ _ _ _ u.2,grp_bit,hc v];have h4:=(checkM_zero h).2.2.1;refine and_congr ⟨?_,?_⟩ Iff.rfl
 ·rintro⟨a,ha,hga,hr⟩;exact⟨a,by omega,hga,(kmR ha u v).2 hr⟩
 rintro⟨a,_,hga,hr⟩;exact⟨a,grp_agent hg hga,hga,(kmR (grp_agent hg hga) u v).1 hr⟩
theorem rch_up {md:Md}(h:checkM md=0) {g:Int} {c:Nat} {t:Tr}(hg:g.toNat < 2^md.rel.length)(hc:IsW md c t) {a b:Nat}(hr:Rch (stpW ((List.range md.n.toNat).map (grpN md.rel g.toNat false md.n.toNat)) c) a b):
 ∀(ha:a < md.n.toNat),∃hb:b < md.n.toNat,Rch ((kmOf md).step g ((kmOf md).sat t)) (⟨a,ha⟩:Fin md.n.toNat) (⟨b,hb⟩:Fin md.n.toNat):=by
 induction hr with
 |one hs=>exact fun ha=>⟨(grp_bits h _ _ _ hs.1).2,.one ((step_words h hg hc ⟨_,ha⟩ ⟨_,(grp_bits h _ _ _ hs.1).2⟩).1 hs)⟩
 |cons hs _ ih =>
  intro ha;obtain⟨hb,hr2⟩:=ih (grp_bits h _ _ _ hs.1).2;exact⟨hb,.cons ((step_words h hg hc ⟨_,ha⟩ ⟨_,(grp_bits h _ _ _ hs.1).2⟩).1 hs) hr2⟩
theorem rch_down {md:Md}(h:checkM md=0) {g:Int} {c:Nat} {t:Tr}(hg:g.toNat < 2^md.rel.length)(hc:IsW md c t) {a b:Fin md.n.toNat}(hr:Rch ((kmOf md).step g ((kmOf md).sat t)) a b):
 Rch (stpW ((List.range md.n.toNat).map (grpN md.rel g.toNat false md.n.toNat)) c) a.1 b.1:=by
 induction hr with
 |one hs=>exact .one ((step_words h hg hc _ _).2 hs)
 |cons hs _ ih=>exact .cons ((step_words h hg hc _ _).2 hs) ih
theorem common_sat {md:Md}(h:checkM md=0) {n:Nd} {c s:Nat} {t1 t2:Tr}(hg:n.g.toNat < 2^md.rel.length)(hc:IsW md c t1)(hs:IsW md s t2)(h9:n.op=13):
 IsW md (commonM ((List.range md.n.toNat).map (grpN md.rel n.g.toNat false md.n.toNat)) md.n.toNat c s) (.two n t1 t2):=by
 intro w;unfold commonM;rw [mask_bit,Bool.and_eq_true,decide_eq_true_iff,subS_iff];show _↔(if n.op=5 then _ else if n.op=6 then _ else if n.op=7 then _ else if n.op=8 then _ else if n.op=13 then _ else _);rw [if_neg (by omega),if_neg (by omega),if_neg (by omega),if_neg (by omega),if_pos h9];constructor
 ·rintro⟨_,hb⟩ v hv;exact(hs v).1 (hb v.1 ((paths_bit (grp_bits h _)).2 (rch_down h hg hc hv)))
 intro hf;refine⟨w.2,fun v hv=> ?_⟩;obtain⟨hvn,hr⟩:=rch_up h hg hc ((paths_bit (grp_bits h _)).1 hv) w.2;exact(hs ⟨v,hvn⟩).2 (hf ⟨v,hvn⟩ hr)
theorem top_sat {md:Md} {n:Nd}(h:n.op=1)(x y:Nat):IsW md (boolN n.op x y (allW md.n.toNat)) (.leaf n):=by
 intro w;show _↔(n.op=1\/_);unfold boolN;rw [if_pos h,allw_bit];exact⟨fun _=>Or.inl h,fun _=>decide_eq_true w.2⟩
theorem bot_sat {md:Md} {n:Nd}(h:n.op=2)(x y:Nat):IsW md (boolN n.op x y (allW md.n.toNat)) (.leaf n):=by
 intro w;show _↔(n.op=1\/(n.op=3/\_));rw [h];show(boolN 2 x y (allW md.n.toNat)).testBit w.1=true↔_;rw [show boolN 2 x y (allW md.n.toNat)=0 from rfl,Nat.zero_testBit];simp
theorem fact_sat {md:Md} {n:Nd}(h:n.op=3):IsW md (md.val.getD n.i.toNat 0) (.leaf n):=by
 intro w;show _↔(n.op=1\/(n.op=3/\(md.val.getD n.i.toNat 0).testBit w.1=true));rw [h];simp
theorem not_sat {md:Md} {n:Nd} {x y:Nat} {t:Tr}(h:n.op=4)(hx:IsW md x t):IsW md (boolN n.op x y (allW md.n.toNat)) (.one n t):=by
 intro w;show _↔(if n.op=4 then ¬(kmOf md).sat t w else _);rw [if_pos h,<-hx w,h];show(difN (allW md.n.toNat) x).testBit w.1=true↔_;rw [dif_bit,allw_bit,decide_eq_true w.2];simp
theorem two_sat {md:Md} {n:Nd} {x y:Nat} {t1 t2:Tr}(h:n.op=5\/n.op=6\/n.op=7\/n.op=8)(hx:IsW md x t1)(hy:IsW md y t2):IsW md (boolN n.op x y (allW md.n.toNat)) (.two n t1 t2):=by
 intro w;have h1:=hx w;have h2:=hy w;show _↔(if n.op=5 then(kmOf md).sat t1 w/\(kmOf md).sat t2 w else if n.op=6 then(kmOf md).sat t1 w\/(kmOf md).sat t2 w else if n.op=7 then(kmOf md).sat t1 w->(kmOf md).sat t2 w else if n.op=8 then((kmOf md).sat t1 w↔(kmOf md).sat t2 w)else _);rw [<-h1,<-h2];rcases h with h|h|h|h <;> rw [h]
 ·show(x&&&y).testBit w.1=true↔_;rw [Nat.testBit_and];cases x.testBit w.1 <;> cases y.testBit w.1 <;> simp
 ·show(x|||y).testBit w.1=true↔_;rw [Nat.testBit_or];cases x.testBit w.1 <;> cases y.testBit w.1 <;> simp
 ·show(difN (allW md.n.toNat) x|||y).testBit w.1=true↔_;rw [Nat.testBit_or,dif_bit,allw_bit,decide_eq_true w.2];cases x.testBit w.1 <;> cases y.testBit w.1 <;> simp
 show(difN (allW md.n.toNat) (x^^^y)).testBit w.1=true↔_;rw [dif_bit,allw_bit,decide_eq_true w.2,Nat.testBit_xor];cases x.testBit w.1 <;> cases y.testBit w.1 <;> simp
theorem node_sat {md:Md}(h:checkM md=0) {n:Nd} {x y:Nat} {a b:Tr}(hf:FitNd md n)(h12:n.op≠12)(hx:hasX n.op=true->IsW md x a)(hy:hasY n.op=true->IsW md y b):
 IsW md (oneN md n x y) (mkTr n a b):=by
 have ho:1<=n.op:=by
  have:=hf.head.1;unfold isOp at this;simp at this;omega
 have h13:=hf.op;obtain⟨op,i,e,g,p,q⟩:=n;have hc:op=1\/op=2\/op=3\/op=4\/(op=5\/op=6\/op=7\/op=8)\/op=9\/op=10\/op=11\/op=13:=by
  simp at h12 ho h13;omega
 rcases hc with rfl|rfl|rfl|rfl|hc|rfl|rfl|rfl|rfl
 ·exact top_sat (n:=⟨1,i,e,g,p,q⟩) rfl x y
 ·exact bot_sat (n:=⟨2,i,e,g,p,q⟩) rfl x y
 ·exact fact_sat (n:=⟨3,i,e,g,p,q⟩) rfl
 ·exact not_sat (n:=Nd.head ⟨4,i,e,g,p,q⟩) (y:=y) rfl (hx rfl)
 ·rcases hc with rfl|rfl|rfl|rfl
  ·exact two_sat (n:=Nd.head ⟨5,i,e,g,p,q⟩) (Or.inl rfl) (hx rfl) (hy rfl)
  ·exact two_sat (n:=Nd.head ⟨6,i,e,g,p,q⟩) (Or.inr (Or.inl rfl)) (hx rfl) (hy rfl)
  ·exact two_sat (n:=Nd.head ⟨7,i,e,g,p,q⟩) (Or.inr (Or.inr (Or.inl rfl))) (hx rfl) (hy rfl)
  exact two_sat (n:=Nd.head ⟨8,i,e,g,p,q⟩) (Or.inr (Or.inr (Or.inr rfl))) (hx rfl) (hy rfl)
 ·exact box_sat h (n:=Nd.head ⟨9,i,e,g,p,q⟩) ⟨(head_agent hf.head rfl).1,hf.agent (Or.inl rfl)⟩ (hx rfl) rfl
 ·exact dia_sat h (n:=Nd.head ⟨10,i,e,g,p,q⟩) ⟨(head_agent hf.head rfl).1,hf.agent (Or.inr rfl)⟩ (hx rfl) rfl
 ·exact grp_sat h (n:=Nd.head ⟨11,i,e,g,p,q⟩) (hf.group (show(11:Int)<=11 by decide)).2 (hx rfl) rfl
 exact common_sat h (n:=Nd.head ⟨13,i,e,g,p,q⟩) (hf.group (show(11:Int)<=13 by decide)).2 (hx rfl) (hy rfl) rfl
def okP(n:Nd)(fi:List Bool):Bool :=
 (!decide (4<=n.op)||fi.getD n.x.toNat false)&&(!((decide (5<=n.op)&&decide (n.op<=8))||n.op==13)||fi.getD n.y.toNat false)
def atP(md:Md)(f:List Nd)(out:List Nat)(fi:List Bool)(k:Nat):Nat×Bool :=
 if okP (f.getD k Nd.zero) fi=true then(valP md (f.getD k Nd.zero) (out.getD (f.getD k Nd.zero).x.toNat 0) (out.getD (f.getD k Nd.zero).y.toNat 0),fineP md (f.getD k Nd.zero))else(0,false)
def setsP(md:Md)(f:List Nd):Nat->List Nat×List Bool
 |0=>([],[])
 |k+1=>((setsP md f k).1++ [(atP md f (setsP md f k).1 (setsP md f k).2 k).1],(setsP md f k).2++ [(atP md f (setsP md f k).1 (setsP md f k).2 k).2])
theorem setsP_len(md:Md)(f:List Nd):∀k,(setsP md f k).1.length=k/\(setsP md f k).2.length=k
 |0=>⟨rfl,rfl⟩
 |k+1=>by
  obtain⟨h1,h2⟩:=setsP_len md f k;unfold setsP;exact⟨by simp [h1],by simp [h2]⟩
theorem setsP_at(md:Md)(f:List Nd):∀(m k:Nat),k < m->(setsP md f m).1.getD k 0=(atP md f (setsP md f k).1 (setsP md f k).2 k).1/\(setsP md f m).2.getD k false=(atP md f (setsP md f k).1 (setsP md f k).2 k).2
 |0,k,h=>absurd h (Nat.not_lt_zero _)
 |m+1,k,h=>by
  obtain⟨h1,h2⟩:=setsP_len md f m;by_cases hk:k < m
  ·have:=setsP_at md f m k hk;rw [<-this.1,<-this.2];constructor
   ·show((setsP md f m).1++_).getD k 0=_;rw [Qk,Qk,List.getElem?_append_left (by omega)]
   show((setsP md f m).2++_).getD k false=_;rw [Qk,Qk,List.getElem?_append_left (by omega)]
  obtain rfl:k=m:=by omega
  constructor
  ·show((setsP md f k).1++_).getD k 0=_;rw [Qk,List.getElem?_append_right (by omega),h1,Nat.sub_self];rfl
  show((setsP md f k).2++_).getD k false=_;rw [Qk,List.getElem?_append_right (by omega),h2,Nat.sub_self];rfl
theorem fine_fit {md:Md} {n:Nd}(hh:headOk n)(h:fineP md n=true)(hg:11<=n.op->n.op<=13->1<=n.g):FitNd md n:=by
 have hop:=(isOp_iff n.op).1 hh.1;unfold fineP at h;refine⟨hh,?_,fun ho=> ?_,fun ho=> ?_,fun ho=> ?_⟩
 ·by_cases h3:n.op=3
  ·omega
  rw [if_neg h3]at h;by_cases h8:n.op<=8
  ·omega
  rw [if_neg h8]at h;by_cases h10:n.op<=10
  ·omega
  rw [if_neg h10]at h;by_cases h13:n.op<=13
  ·exact h13
  rw [if_neg h13]at h;cases h
 ·rw [if_pos ho]at h;exact of_decide_eq_true h
 ·rw [if_neg (by omega),if_neg (by omega),if_pos (by omega)]at h;exact of_decide_eq_true h
 rw [if_neg (by omega),if_neg (by omega),if_neg (by omega)]at h;by_cases h13:n.op<=13
 ·rw [if_pos h13]at h;have h2:=of_decide_eq_true h;have hg1:=hg ho h13;exact⟨hg1,by omega⟩
 rw [if_neg h13]at h;cases h
theorem getD_ofP {f:List Nd} {k:Nat} {n:Nd}(h:f[k]?=some n):f.getD k Nd.zero=n:=by rw [Qk,h];rfl
def szU(md:Md)(f:List Nd)(k:Nat):List Nat:=(setsP md f k).1++List.replicate (f.length - k) 0
def szF(md:Md)(f:List Nd)(k:Nat):List Bool:=(setsP md f k).2++List.replicate (f.length - k) false
section
variable {md:Md} {f:List Nd} {k:Nat}
theorem szU_len(h:k<=f.length):(szU md f k).length=f.length:=by
 unfold szU;rw [List.length_append,List.length_replicate,(setsP_len md f k).1];omega
theorem szF_len(h:k<=f.length):(szF md f k).length=f.length:=by
 unfold szF;rw [List.length_append,List.length_replicate,(setsP_len md f k).2];omega
theorem szU_get(i:Nat):(szU md f k).getD i 0=(setsP md f k).1.getD i 0:=by
 unfold szU;rw [Qk,Qk];rcases Nat.lt_or_ge i (setsP md f k).1.length with h|h
 ·rw [List.getElem?_append_left h]
 rw [List.getElem?_append_right h,List.getElem?_replicate,List.getElem?_eq_none h]
 split <;> rfl
theorem szF_get(i:Nat):(szF md f k).getD i false=(setsP md f k).2.getD i false:=by
 unfold szF;rw [Qk,Qk];rcases Nat.lt_or_ge i (setsP md f k).2.length with h|h
 ·rw [List.getElem?_append_left h]
 rw [List.getElem?_append_right h,List.getElem?_replicate,List.getElem?_eq_none h]
 split <;> rfl
theorem opd_lt {b:Bool} {x:Int}(h:k < f.length)(h1:b=true->0<=x/\x < k)(h2:b=false->x=0):∃ix:Nat,x=(ix:Int)/\ix < f.length:=by
 cases b
 ·exact⟨0,h2 rfl,by omega⟩
 obtain⟨h3,h4⟩:=h1 rfl;exact⟨x.toNat,by omega,by omega⟩
theorem szU_zero:szU md f 0=List.replicate f.length 0:=rfl
theorem szF_zero:szF md f 0=List.replicate f.length false:=rfl
theorem szU_all:szU md f f.length=(setsP md f f.length).1:=by
 unfold szU;rw [Nat.sub_self];simp
theorem set_mid {α:Type}(l:List α)(n:Nat)(z v:α):(l++List.replicate (n+1) z).set l.length v=l++ [v]++List.replicate n z:=by
 rw [List.set_append_right _ _ (Nat.le_refl _),Nat.sub_self,List.replicate_succ,List.set_cons_zero];simp
theorem szU_step(h:k < f.length):szU md f (k+1)=(szU md f k).set k (atP md f (setsP md f k).1 (setsP md f k).2 k).1:=by
 have h1:=(setsP_len md f k).1;have h2:=set_mid (setsP md f k).1 (f.length - (k+1)) 0 (atP md f (setsP md f k).1 (setsP md f k).2 k).1;rw [h1,show f.length - (k+1)+1=f.length - k by omega]at h2;exact h2.symm
theorem szF_step(h:k < f.length):szF md f (k+1)=(szF md f k).set k (atP md f (setsP md f k).1 (setsP md f k).2 k).2:=by
 have h1:=(setsP_len md f k).2;have h2:=set_mid (setsP md f k).2 (f.length - (k+1)) false (atP md f (setsP md f k).1 (setsP md f k).2 k).2;rw [h1,show f.length - (k+1)+1=f.length - k by omega]at h2;exact h2.symm
theorem set_same {α:Type} {l:List α} {i:Nat} {z:α}(h:l[i]?=some z):l.set i z=l:=by
 refine List.ext_getElem? fun j=> ?_
 rw [List.getElem?_set];by_cases e:i=j
 ·subst e;rw [if_pos rfl,h];simp [(List.getElem?_eq_some_iff.1 h).1]
 rw [if_neg e]
theorem sz_skip(h:k < f.length)(ho:okP (f.getD k Nd.zero) (setsP md f k).2=false):szU md f (k+1)=szU md f k/\szF md f (k+1)=szF md f k:=by
 have e:atP md f (setsP md f k).1 (setsP md f k).2 k=(0,false):=by unfold atP;rw [ho];rfl
 refine⟨?_,?_⟩
 ·rw [szU_step h,e];refine set_same ?_;unfold szU;have h1:=(setsP_len md f k).1;rw [List.getElem?_append_right (by omega),List.getElem?_replicate,if_pos (by omega)]
 rw [szF_step h,e];refine set_same ?_;unfold szF;have h1:=(setsP_len md f k).2;rw [List.getElem?_append_right (by omega),List.getElem?_replicate,if_pos (by omega)]
theorem sz_ok(h:k < f.length) {n:Nd}(hn:f.getD k Nd.zero=n)(ho:okP n (setsP md f k).2=true):
 szU md f (k+1)=(szU md f k).set k (valP md n ((szU md f k).getD n.x.toNat 0) ((szU md f k).getD n.y.toNat 0))/\szF md f (k+1)=(szF md f k).set k (fineP md n):=by
 have e:atP md f (setsP md f k).1 (setsP md f k).2 k=(valP md n ((setsP md f k).1.getD n.x.toNat 0) ((setsP md f k).1.getD n.y.toNat 0),fineP md n):=by unfold atP;rw [hn,ho];rfl
 rw [szU_step h,szF_step h,e,szU_get,szU_get];exact⟨rfl,rfl⟩
end
theorem unT {n:Nd} {f:List Nd}(h1:hasX n.op=true)(h2:hasY n.op=false)(hh:headOk n)(hn:n.head=n)(h:check (buildN n [f])=0):check f=0/\treeOf (buildN n [f])=.one n (treeOf f):=by
 by_cases hf:check f=0
 ·refine⟨hf,?_⟩;have e:=build_oneS hf h1 h2 hh;rw [hn]at e;have hd:(Tr.one n (treeOf f)).ok:=⟨h1,h2,hn,treeOf_ok hf⟩;by_cases hl:(canon (.one n (treeOf f))).length<=200
  ·rw [e,short_fit hl];exact treeOf_canon hd
  rw [e,short_long (by omega)]at h;exact absurd h check_nil'
 rw [build_bad1 hf]at h;exact absurd h check_nil'
theorem binT {n:Nd} {f g:List Nd}(h1:hasX n.op=true)(h2:hasY n.op=true)(hh:headOk n)(hn:n.head=n)(h:check (buildN n [f,g])=0):check f=0/\check g=0/\treeOf (buildN n [f,g])=.two n (treeOf f) (treeOf g):=by
 by_cases hf:check f=0
 ·by_cases hg:check g=0
  ·refine⟨hf,hg,?_⟩;have e:=build_twoS hf hg h1 h2 hh;rw [hn]at e;have hd:(Tr.two n (treeOf f) (treeOf g)).ok:=⟨h1,h2,hn,treeOf_ok hf,treeOf_ok hg⟩;by_cases hl:(canon (.two n (treeOf f) (treeOf g))).length<=200
   ·rw [e,short_fit hl];exact treeOf_canon hd
   rw [e,short_long (by omega)]at h;exact absurd h check_nil'
  rw [build_bad2 (.inr hg)]at h;exact absurd h check_nil'
 rw [build_bad2 (.inl hf)]at h;exact absurd h check_nil'
theorem head_agent' {n:Nd}(h:headOk n)(ho:hasAgent n.op=true):0<=n.i/\n.i < 4:=by
 obtain⟨_,_,hr,_,_⟩:=h;unfold rangeBad at hr;simp only [outsideB,ho,Bool.or_eq_false_iff]at hr;simp at hr;omega
section
variable {M:KM} {w:M.W} {f g:List Nd}
theorem sem_and(h:check (andN f g)=0):check f=0/\check g=0/\(M.sat (treeOf (andN f g)) w↔M.sat (treeOf f) w/\M.sat (treeOf g) w):=by
 obtain⟨h1,h2,e⟩:=binT (n:=⟨5,0,0,0,0,0⟩) rfl rfl ⟨rfl,rfl,rfl,fun _=>rfl,fun _=>rfl⟩ rfl h;exact⟨h1,h2,by rw [show treeOf (andN f g)=_ from e];simp [KM.sat]⟩
theorem sem_not(h:check (notN f)=0):check f=0/\(M.sat (treeOf (notN f)) w↔¬M.sat (treeOf f) w):=by
 obtain⟨h1,e⟩:=unT (n:=⟨4,0,0,0,0,0⟩) rfl rfl ⟨rfl,rfl,rfl,fun _=>rfl,fun _=>rfl⟩ rfl h;exact⟨h1,by rw [show treeOf (notN f)=_ from e];simp [KM.sat]⟩
theorem agent_head {k a:Int}(hk:k=9\/k=10)(h0:0<=a)(h4:a < 4):headOk ⟨k,a,0,0,0,0⟩:=by
 have ha:a=0\/a=1\/a=2\/a=3:=by omega
 rcases hk with rfl|rfl <;> rcases ha with rfl|rfl|rfl|rfl <;> exact⟨rfl,rfl,rfl,fun _=>rfl,fun _=>rfl⟩
theorem sem_know {a:Int}(h0:0<=a)(h4:a < 4)(h:check (knowN a f)=0):check f=0/\(M.sat (treeOf (knowN a f)) w↔∀v,M.R a w v->M.sat (treeOf f) v):=by
 obtain⟨h1,e⟩:=unT (n:=⟨9,a,0,0,0,0⟩) rfl rfl (agent_head (.inl rfl) h0 h4) rfl h;exact⟨h1,by rw [show treeOf (knowN a f)=_ from e];simp [KM.sat]⟩
theorem sem_poss {a:Int}(h0:0<=a)(h4:a < 4)(h:check (possN a f)=0):check f=0/\(M.sat (treeOf (possN a f)) w↔∃v,M.R a w v/\M.sat (treeOf f) v):=by
 obtain⟨h1,e⟩:=unT (n:=⟨10,a,0,0,0,0⟩) rfl rfl (agent_head (.inr rfl) h0 h4) rfl h;exact⟨h1,by rw [show treeOf (possN a f)=_ from e];simp [KM.sat]⟩
theorem sem_true:M.sat (treeOf trueN) w:=by
 rw [show treeOf trueN=.leaf ⟨1,0,0,0,0,0⟩from rfl];exact .inl rfl
theorem sem_false:¬M.sat (treeOf falseN) w:=by
 rw [show treeOf falseN=.leaf ⟨2,0,0,0,0,0⟩from rfl];simp [KM.sat]
end
def HoldS(M:KM)(base:List Nd)(s:Nat)(w:M.W):Prop:=∀i,i < base.length->s.testBit i=true->M.sat (tr base i) w
section
variable {M:KM} {base:List Nd} {w:M.W} {k:Nat} {n:Nd}
theorem tr_one9(hc:check base=0)(hk:base[k]?=some n)(ho:n.op=9):M.sat (tr base k) w↔∀v,M.R n.i w v->M.sat (tr base n.x.toNat) v:=by
 rw [tr_eq (check_wf hc) hk];obtain⟨op,a,e,g,x,y⟩:=n;obtain rfl:op=9:=ho;simp [mkTr,hasX,hasY,KM.sat,Nd.head,Nd.with_]
theorem tr_one10(hc:check base=0)(hk:base[k]?=some n)(ho:n.op=10):M.sat (tr base k) w↔∃v,M.R n.i w v/\M.sat (tr base n.x.toNat) v:=by
 rw [tr_eq (check_wf hc) hk];obtain⟨op,a,e,g,x,y⟩:=n;obtain rfl:op=10:=ho;simp [mkTr,hasX,hasY,KM.sat,Nd.head,Nd.with_]
theorem tr_two5(hc:check base=0)(hk:base[k]?=some n)(ho:n.op=5):M.sat (tr base k) w↔M.sat (tr base n.x.toNat) w/\M.sat (tr base n.y.toNat) w:=by
 rw [tr_eq (check_wf hc) hk];obtain⟨op,a,e,g,x,y⟩:=n;obtain rfl:op=5:=ho;simp [mkTr,hasX,hasY,KM.sat,Nd.head,Nd.with_]
theorem tr_two6(hc:check base=0)(hk:base[k]?=some n)(ho:n.op=6):M.sat (tr base k) w↔M.sat (tr base n.x.toNat) w\/M.sat (tr base n.y.toNat) w:=by
 rw [tr_eq (check_wf hc) hk];obtain⟨op,a,e,g,x,y⟩:=n;obtain rfl:op=6:=ho;simp [mkTr,hasX,hasY,KM.sat,Nd.head,Nd.with_]
end
theorem frag_src:∀(l:List Nd) (s i:Nat),(l.foldl (fun s n=>s|||(fragOf n.op).toNat) s).testBit i=true->s.testBit i=true\/∃n∈l,(fragOf n.op).toNat.testBit i=true
 |[],_,_,h=>Or.inl h
 |a :: l,s,i,h=>by
  rcases frag_src l (s|||(fragOf a.op).toNat) i h with h1|⟨n,hn,h2⟩
  ·rw [Nat.testBit_or,Bool.or_eq_true]at h1;rcases h1 with h1|h1
   ·exact Or.inl h1
   exact Or.inr ⟨a,List.mem_cons_self ..,h1⟩
  exact Or.inr ⟨n,List.mem_cons_of_mem _ hn,h2⟩
theorem ag_src:∀(l:List Nd) (s i:Nat),(l.foldl agS s).testBit i=true->s.testBit i=true\/∃n∈l,(hasAgent n.op=true/\i=n.i.toNat)\/n.g.toNat.testBit i=true
 |[],_,_,h=>Or.inl h
 |a :: l,s,i,h=>by
  rcases ag_src l (agS s a) i h with h1|⟨n,hn,h2⟩
  ·unfold agS at h1;rw [Nat.testBit_or,Nat.testBit_or,Bool.or_eq_true,Bool.or_eq_true]at h1;rcases h1 with(h1|h1)|h1
   ·exact Or.inl h1
   ·refine Or.inr ⟨a,List.mem_cons_self ..,Or.inl ?_⟩;cases ha:hasAgent a.op
    ·rw [ha,if_neg (by simp),Nat.zero_testBit]at h1;cases h1
    rw [ha,if_pos rfl,Nat.testBit_two_pow,decide_eq_true_iff]at h1;exact⟨rfl,h1.symm⟩
   exact Or.inr ⟨a,List.mem_cons_self ..,Or.inr h1⟩
  exact Or.inr ⟨n,List.mem_cons_of_mem _ hn,h2⟩
theorem fa_src:∀(l:List Nd) (s i:Nat),(l.foldl faS s).testBit i=true->s.testBit i=true\/∃n∈l,n.op=3/\i=n.i.toNat
 |[],_,_,h=>Or.inl h
 |a :: l,s,i,h=>by
  rcases fa_src l (faS s a) i h with h1|⟨n,hn,h2⟩
  ·unfold faS at h1;by_cases ho:a.op=3
   ·rw [if_pos ho,Nat.testBit_or,Bool.or_eq_true,Nat.testBit_two_pow,decide_eq_true_iff]at h1;rcases h1 with h1|h1
    ·exact Or.inl h1
    exact Or.inr ⟨a,List.mem_cons_self ..,ho,h1.symm⟩
   rw [if_neg ho]at h1;exact Or.inl h1
  exact Or.inr ⟨n,List.mem_cons_of_mem _ hn,h2⟩
theorem part_heads {c:List Nd}(hc:check c=0) {k:Nat}(hk:k < c.length):∀n∈canon (tr c k),∃m∈c,m.head=n.head:=by
 have hP:∀(n:Nd) (k1 k2:Nat),(∃m∈c,m.head=n.head)->∃m∈c,m.head=(n.with_ k1 k2).head:=fun n k1 k2 ⟨m,hm,h⟩=>⟨m,hm,by rw [with_head];exact h⟩
 exact ins_all (P:=fun n=>∃m∈c,m.head=n.head) hP (tr c k) [] (tr_all (P:=fun n=>∃m∈c,m.head=n.head) hP (check_wf hc) (fun n hn=>⟨n,hn,rfl⟩) k hk) (fun n hn=>by cases hn)
theorem fit_part {md:Md} {c:List Nd}(hc:check c=0)(hcc:compactN c=c)(hs:subS (fragsN c) 15=true)(hf:fitsN c md.rel.length md.val.length=true) {k:Nat}(hk:k < c.length):fit17 md c (k:Int)=true:=by
 have hg:=(sub_props hc hk).2.1;have htk:(tr c k).ok:=tr_ok (check_wf hc) k hk;have hce:compactN (subN c (k:Int))=canon (tr c k):=by
  rw [compactN_tree hg,subN_tree hc hk,treeOf_canon htk]
 have hh:=part_heads hc hk;unfold fitsN at hf;rw [Bool.and_eq_true,Bool.and_eq_true,List.all_eq_true,List.all_eq_true,hcc]at hf;unfold fit17;rw [Bool.and_eq_true];refine⟨?_,?_⟩
 ·rw [subS_iff]at hs⊢;intro i hi;unfold fragsN fragMask at hi;rw [hce]at hi;rcases frag_src _ _ _ hi with h|⟨n,hn,h⟩
  ·rw [Nat.zero_testBit]at h;cases h
  obtain⟨m,hm,e⟩:=hh n hn;refine hs i ?_;unfold fragsN fragMask;rw [hcc];exact(frag_mem c 0).2 m hm i (by rw [(head_eqs e).1];exact h)
 unfold fitsN;rw [Bool.and_eq_true,Bool.and_eq_true,List.all_eq_true,List.all_eq_true,hce];refine⟨by rw [hg];rfl,fun i hi=> ?_,fun i hi=> ?_⟩
 ·have h1:=hf.2.1 i hi;unfold fitA at h1⊢;rw [Bool.or_eq_true]at h1⊢;rcases h1 with h1|h1
  ·refine Or.inl ?_;cases hb:(agentsM (canon (tr c k))).testBit i
   ·rfl
   exfalso
   rcases ag_src _ _ _ hb with h|⟨n,hn,h⟩
   ·rw [Nat.zero_testBit]at h;cases h
   obtain⟨m,hm,e⟩:=hh n hn;have:=(ag_mem c 0).2 m hm i (by rw [(head_eqs e).1,(head_eqs e).2.1,(head_eqs e).2.2];exact h);unfold agentsM at h1;rw [this]at h1;cases h1
  exact Or.inr h1
 have h1:=hf.2.2 i hi;unfold fitA at h1⊢;rw [Bool.or_eq_true]at h1⊢;rcases h1 with h1|h1
 ·refine Or.inl ?_;cases hb:(factsM (canon (tr c k))).testBit i
  ·rfl
  exfalso
  rcases fa_src _ _ _ hb with h|⟨n,hn,h⟩
  ·rw [Nat.zero_testBit]at h;cases h
  obtain⟨m,hm,e⟩:=hh n hn;have:=(fa_mem c 0).2 m hm i (by rw [(head_eqs e).1,(head_eqs e).2.1];exact h);unfold factsM at h1;rw [this]at h1;cases h1
 exact Or.inr h1
def fineT(md:Md):Tr->Bool
 |.leaf n=>fineP md n
 |.one n a=>fineP md n&&fineT md a
 |.two n a b=>fineP md n&&(fineT md a&&fineT md b)
theorem fineP_head(md:Md)(n:Nd):fineP md n.head=fineP md n:=rfl
theorem fineT_mk(md:Md)(n:Nd)(a b:Tr):fineT md (mkTr n a b)=(fineP md n&&((!hasX n.op||fineT md a)&&(!hasY n.op||fineT md b))):=by
 unfold mkTr;cases hy:hasY n.op
 ·cases hx:hasX n.op
  ·simp [fineT]
  simp [fineT,fineP_head]
 have hx:hasX n.op=true:=hasX_of_hasY hy;simp [fineT,fineP_head,hx]
theorem fineP_op {md:Md} {n:Nd}(h:fineP md n=true):n.op<=13:=by
 unfold fineP at h;by_cases h3:n.op=3
 ·omega
 rw [if_neg h3]at h;by_cases h8:n.op<=8
 ·omega
 rw [if_neg h8]at h;by_cases h10:n.op<=10
 ·omega
 rw [if_neg h10]at h;by_cases h13:n.op<=13
 ·exact h13
 rw [if_neg h13]at h;cases h
theorem fine_tree {md:Md} {f:List Nd}(hc:check f=0):∀k,k < f.length->(atP md f (setsP md f k).1 (setsP md f k).2 k).2=fineT md (tr f k):=by
 intro k
 induction k using Nat.strongRecOn with
 |_ k ih =>
  intro hk;obtain⟨n,hn⟩:∃n,f[k]?=some n:=⟨_,Qv hk⟩;obtain⟨hx,hy⟩:=check_wf hc k n hn;rw [tr_eq (check_wf hc) hn,fineT_mk];unfold atP;rw [getD_ofP hn];cases hf:fineP md n
  ·rw [Bool.false_and]
   split
   ·rfl
   rfl
  have h13:=fineP_op hf;have e:okP n (setsP md f k).2=((!hasX n.op||fineT md (tr f n.x.toNat))&&(!hasY n.op||fineT md (tr f n.y.toNat))):=by
   unfold okP
   congr 1
   ·have e1:decide (4<=n.op)=hasX n.op:=by unfold hasX;rw [decide_eq_true (show n.op<=21 by omega),Bool.and_true]
    rw [e1];cases h:hasX n.op
    ·rfl
    have hb:=hx h;rw [(setsP_at md f k _ (by omega)).2,ih _ (by omega) (by omega)]
   have e1:((decide (5<=n.op)&&decide (n.op<=8))||n.op==13)=hasY n.op:=by
    unfold hasY;rw [show(n.op==14)=false by simp;omega,show(n.op==16)=false by simp;omega,show(n.op==19)=false by simp;omega,show(n.op==21)=false by simp;omega];simp
   rw [e1];cases h:hasY n.op
   ·rfl
   have hb:=hy h;rw [(setsP_at md f k _ (by omega)).2,ih _ (by omega) (by omega)]
  rw [<-e,Bool.true_and];cases ho:okP n (setsP md f k).2
  ·rfl
  rfl
theorem fit_fine {md:Md} {n:Nd}(h:FitNd md n):fineP md n=true:=by
 unfold fineP;by_cases h3:n.op=3
 ·rw [if_pos h3];exact decide_eq_true (h.fact h3)
 rw [if_neg h3];by_cases h8:n.op<=8
 ·rw [if_pos h8]
 rw [if_neg h8];by_cases h10:n.op<=10
 ·rw [if_pos h10];exact decide_eq_true (h.agent (by omega))
 rw [if_neg h10,if_pos h.op];have:=h.group (by omega);exact decide_eq_true (by omega)
theorem fineT_all {md:Md} :∀{t:Tr},t.all (fun n=>fineP md n=true)->fineT md t=true
 |.leaf n,h=>h
 |.one n a,h=>by unfold fineT;rw [h.1,fineT_all h.2];rfl
 |.two n a b,h=>by unfold fineT;rw [h.1,fineT_all h.2.1,fineT_all h.2.2];rfl
theorem chk_fine {md:Md} {f:List Nd}(h:chk17 md f=0):fineT md (treeOf f)=true:=by
 obtain⟨hck,hc,hs,hf⟩:=chk17_zero h;have h2:=compact_twice hc;have hcc:=compactN_check hc;have hs2:subS (fragsN (compactN f)) 15=true:=by unfold fragsN at hs⊢;rw [h2];exact hs
 have hf2:fitsN (compactN f) md.rel.length md.val.length=true:=by
  unfold fitsN at hf⊢;rw [h2,hcc];rw [hc]at hf;exact hf
 rw [<-treeOf_compact hc];refine fineT_all (tr_all (P:=fun n=>fineP md n=true) (fun n k1 k2 h=>h) (check_wf hcc) (fun n hn=> ?_) _ (by have:=(check_parts hcc).1;omega));obtain⟨k,hk⟩:=List.mem_iff_getElem?.1 hn;have hkl:=(List.getElem?_eq_some_iff.1 hk).1;exact fit_fine (fit_nd hcc hk (fit_part hcc h2 hs2 hf2 hkl) (checkM_zero hck).2.2.1)
theorem all_mk {n:Nd} {a b:Tr}(h:(mkTr n a b).all (fun n=>n.op<=10)):n.op<=10/\(hasX n.op=true->a.all (fun n=>n.op<=10))/\(hasY n.op=true->b.all (fun n=>n.op<=10)):=by
 unfold mkTr at h;cases hy:hasY n.op
 ·cases hx:hasX n.op
  ·rw [hy,hx]at h;exact⟨h,fun e=>(by cases e),fun e=>(by cases e)⟩
  rw [hy,hx]at h;exact⟨h.1,fun _=>h.2,fun e=>(by cases e)⟩
 rw [hy]at h;exact⟨h.1,fun _=>h.2.1,fun _=>h.2.2⟩
theorem fine_isT {md:Md} {f:List Nd}(hck:checkM md=0)(hc:check f=0)(_h0:True):∀k,k < f.length->(tr f k).all (fun n=>n.op<=10)->
 (atP md f (setsP md f k).1 (setsP md f k).2 k).2=true->IsW md (atP md f (setsP md f k).1 (setsP md f k).2 k).1 (tr f k):=by
 intro k
 induction k using Nat.strongRecOn with
 |_ k ih =>
  intro hk hall hfi;obtain⟨n,hn⟩:∃n,f[k]?=some n:=⟨_,Qv hk⟩;have hm:=List.mem_of_getElem? hn;have hh:=heads_of hc n hm;obtain⟨hx,hy⟩:=check_wf hc k n hn;unfold atP at hfi⊢;rw [getD_ofP hn]at hfi⊢;by_cases ho:okP n (setsP md f k).2=true
  ·rw [if_pos ho]at hfi⊢;have hfi2:fineP md n=true:=hfi;rw [tr_eq (check_wf hc) hn];show IsW md (valP md n _ _) _;unfold valP;rw [if_pos hfi2];rw [tr_eq (check_wf hc) hn]at hall;obtain⟨h10,hax,hay⟩:=all_mk hall;unfold okP at ho;rw [Bool.and_eq_true]at ho;refine node_sat hck (fine_fit hh hfi2 (fun h _=>absurd h (by omega))) (by omega) (fun h=> ?_) (fun h=> ?_)
   ·have hb:=hx h;have h4:4<=n.op:=by unfold hasX at h;rw [Bool.and_eq_true]at h;exact of_decide_eq_true h.1
    have h5:=ho.1;rw [decide_eq_true h4,Bool.not_true,Bool.false_or]at h5;rw [(setsP_at md f k _ (by omega)).1];rw [(setsP_at md f k _ (by omega)).2]at h5;exact ih _ (by omega) (by omega) (hax h) h5
   have hb:=hy h;have h58:5<=n.op/\n.op<=8:=by
    unfold hasY at h;simp only [Bool.or_eq_true,Bool.and_eq_true,decide_eq_true_eq,beq_iff_eq]at h;omega
   have h5:=ho.2;rw [decide_eq_true h58.1,decide_eq_true h58.2,Bool.and_true,Bool.true_or,Bool.not_true,Bool.false_or]at h5;rw [(setsP_at md f k _ (by omega)).1];rw [(setsP_at md f k _ (by omega)).2]at h5;exact ih _ (by omega) (by omega) (hay h) h5
  rw [if_neg ho]at hfi;cases hfi
def holdP(md:Md)(f:List Nd):Nat:=(setsP md f f.length).1.getD (f.length - 1) 0
theorem holdP_is {md:Md} {f:List Nd}(h:chk17 md f=0)(hF:Few10 (compactN f)):IsW md (holdP md f) (treeOf f):=by
 obtain⟨hck,hc,_,_⟩:=chk17_zero h;have hp:=(check_parts hc).1;have hcc:=compactN_check hc;have hall:(treeOf f).all (fun n=>n.op<=10):=by
  rw [<-treeOf_compact hc];exact tr_all (P:=fun n=>n.op<=10) (fun n k1 k2 h=>h) (check_wf hcc) (fun n hn=>(hF n hn).2) _ (by have:=(check_parts hcc).1;omega)
 unfold holdP;rw [(setsP_at md f f.length (f.length - 1) (by omega)).1];refine fine_isT hck hc trivial (f.length - 1) (by omega) hall ?_;rw [fine_tree hc _ (by omega)];exact chk_fine h
end Go.Proofs.YtmidgcldljfkcaaGreatDoor
