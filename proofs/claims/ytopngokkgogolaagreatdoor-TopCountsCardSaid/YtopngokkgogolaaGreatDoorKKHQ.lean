/- container/heap over the queue of walk: one comes in, one goes out. -/
import Derived.Test.YtopngokkgogolaaGreatDoorKKHP
set_option linter.unusedVariables false
set_option linter.unusedSimpArgs false
open List renaming Perm → Qa0
namespace Go.Proofs.Tryz
open Go.Shelf Go.RowKit Go.VS Go Go.Sort
theorem QF.refl(q:Nat)(v:Value)(w:World):QF q v w w:=⟨rfl,rfl,rfl,Nat.le_refl _,fun _ _ _ _=>rfl⟩
theorem QF.trans{q:Nat}{v v':Value}{w w1 w2:World}(h:QF q v w w1)(k:QF q v' w1 w2)(hn:Nxt w v v'):QF q v w w2:=
 ⟨k.os.trans h.os,k.tape.trans h.tape,k.output.trans h.output,Nat.le_trans h.size k.size,fun b hb hq hv=>(k.block b (Nat.lt_of_lt_of_le hb h.size) hq fun e=>by
  rcases hn with hn|hn
  ·exact hv (by rw[←hn,e])
  ·have:=hn b e;omega).trans (h.block b hb hq hv)⟩
theorem QF.draws{q:Nat}{v:Value}{w w1:World}(h:QF q v w w1)(n:Nat):QF q v w (w1.drewN n):=⟨h.os,h.tape,h.output,h.size,h.block⟩
theorem QAt.draws{w:World}{B q:Nat}{fv v:Value}{l:List Int}(h:QAt w B q fv v l)(n:Nat):QAt (w.drewN n) B q fv v l:=⟨h.blk,Ir h.own fun _ _=>rfl⟩
theorem GM.qf{w w':World}{a:Option Addr}{ds:List Int}{B q:Nat}{fv v:Value}{l:List Int}(h:GM w a ds)(hb:∀p,a=some p→p.block<B)(hq:QAt w B q fv v l)(hBq:B≤q)(k:QF q v w w'):GM w' a ds:=by
 refine⟨fun i hi=>?_⟩;obtain⟨b,off,h1,h2,h3⟩:=h.at_ i hi;have hbB:b<B:=hb _ h1;refine⟨b,off,h1,Nat.lt_of_lt_of_le h2 k.size,?_⟩;rw[←h3];unfold World.cell?
 rw[k.block b h2 (by omega) fun e=>by
  have:=(World.ownsRow.lt hq.own b e).1
  omega]
structure HAt(ds:List Int)(pa:Option Addr)(ca:Nat)(B q:Nat)(w:World)(v:Value)(l:List Int):Prop where
 qa:QAt w B q (.func (.func 72) #[.slice pa ds.length ca] #[]) v l
 da:GM w pa ds
 ba:∀p,pa=some p→p.block<B
 bq:B≤q
 bw:B≤w.heap.size
 ra:∀x∈l,0≤x∧x<(ds.length:Int)
 na:l.length≤1000000
theorem HAt.draws{ds:List Int}{pa:Option Addr}{ca B q:Nat}{w:World}{v:Value}{l:List Int}(h:HAt ds pa ca B q w v l)(n:Nat):HAt ds pa ca B q (w.drewN n) v l:=⟨h.qa.draws n,⟨h.da.at_⟩,h.ba,h.bq,h.bw,h.ra,h.na⟩
theorem HAt.next{ds:List Int}{pa:Option Addr}{ca B q:Nat}{w w':World}{v v':Value}{l l':List Int}(h:HAt ds pa ca B q w v l)(hq:QAt w' B q (.func (.func 72) #[.slice pa ds.length ca] #[]) v' l')(k:QF q v w w')(hr:∀x∈l',0≤x∧x<(ds.length:Int))(hn:l'.length≤1000000):HAt ds pa ca B q w' v' l':=
 ⟨hq,h.da.qf h.ba h.qa h.bq k,h.ba,h.bq,Nat.le_trans h.bw k.size,hr,hn⟩
theorem Aip(a:Addr)(w:World):(method 559 158 (.pointer (some a)) "Less").run prog w=.ok (374,.pointer (some a)) w:=by kernel_rfl
theorem AdK(a:Addr)(w:World):(method 559 158 (.pointer (some a)) "Swap").run prog w=.ok (377,.pointer (some a)) w:=by kernel_rfl
theorem Alv(a:Addr)(w:World):(method 559 158 (.pointer (some a)) "Len").run prog w=.ok (74,.pointer (some a)) w:=by kernel_rfl
theorem Al7(a:Addr)(w:World):(method 559 158 (.pointer (some a)) "Push").run prog w=.ok (376,.pointer (some a)) w:=by kernel_rfl
theorem Anx(a:Addr)(w:World):(method 559 158 (.pointer (some a)) "Pop").run prog w=.ok (375,.pointer (some a)) w:=by kernel_rfl
theorem swap_perm{l:List Int}{i j:Nat}(hi:i<l.length)(hj:j<l.length):Qa0 ((l.set i (l.getD j 0)).set j (l.getD i 0)) l:=by
 rw[getD_eq hi,getD_eq hj];exact List.set_set_perm hi hj
set_option maxRecDepth 100000 in
set_option maxHeartbeats 2000000 in
theorem Ajg(ds:List Int)(pa:Option Addr)(ca B q:Nat)(w:World)(v:Value)(l:List Int)(j:Nat)(h:HAt ds pa ca B q w v l)(hj:j<l.length):
  Calls prog 141 #[.iface 158 (.pointer (some ⟨q,0,none⟩)),.int .i64 j] w fun e w'=>e=.returned (.tuple #[])∧∃l',HAt ds pa ca B q w' v l'∧Qa0 l' l∧QF q v w w':=by
 go_enter func141,ntmps141
 go_wp2
 go_loopw [1] (fun t wr=>∃(k:Nat) (m:List Int),k<l.length∧t=.int .i64 k∧Qa0 m l∧HAt ds pa ca B q wr v m∧QF q v w wr) (fun t _=>(Lib.intOf t).toNat)
 case atStart=>exact⟨j,l,hj,rfl,.refl _,h,QF.refl _ _ _⟩
 case round=>
  clear h;obtain⟨k,m,hk,hi,hm,h,hqf⟩:=hrel;subst hi;have hml:=hm.length_eq
  cases k with
  |zero=>
   go_wp2
   go_end0
   exact⟨rfl,m,h,hm,hqf⟩
  |succ k=>
   have hna:=h.na
   have hkp:(k:Int)/2=((k/2:Nat):Int):=by omega
   have hp:k/2≤k:=Nat.div_le_self _ _;generalize k/2=p at hkp hp
   have hne:¬(p:Int)=(k:Int)+1:=by omega
   have hml2:=fun W=>Aip ⟨q,0,none⟩ W
   have hms2:=fun W=>AdK ⟨q,0,none⟩ W
   have hlt:p<m.length:=by omega
   have hlt2:k+1<m.length:=by omega
   have hless:=UC ds pa ca wr B q v m h.qa h.da h.ra (k+1) p hlt2 hlt
   have hsw:=fun n=>OS (wr.drewN n) B q _ v m (h.qa.draws n) p (k+1) hlt hlt2
   have hsp:=swap_perm hlt hlt2
   have hck:((k+1:Nat):Int)=(k:Int)+1:=by omega
   rw[hck]at hless;simp only[hck]at hsw;clear hck;generalize Zh ds (m.getD (k+1) 0) (m.getD p 0)=r at hless
   cases r with
   |false=>
    go_wp2_with (first|(go_at_call 374;refine hless.mono ?_;rintro e w2 ⟨rfl,n,rfl⟩))
    go_end0
    exact⟨rfl,m,h.draws n,hm,hqf.draws n⟩
   |true=>
    go_wp2_with (first|(go_at_call 374;refine hless.mono ?_;rintro e w2 ⟨rfl,n,rfl⟩)|(go_at_call 377;refine(hsw n).mono ?_;rintro e w3 ⟨rfl,hq3,hf3⟩))
    refine⟨⟨p,_,by omega,rfl,hsp.trans hm,(h.draws n).next hq3 hf3 (fun x hx=>h.ra x (hsp.mem_iff.1 hx)) (by rw[hsp.length_eq];exact hna),(hqf.draws n).trans hf3 (.inl rfl)⟩,by simp only[Lib.intOf];omega⟩
theorem HAt.of{ds:List Int}{pa:Option Addr}{ca B q:Nat}{w w':World}{v v':Value}{l l':List Int}(h:HAt ds pa ca B q w v l)(hq:QAt w' B q (.func (.func 72) #[.slice pa ds.length ca] #[]) v' l')(k:QF q v w w')(hp:Qa0 l' l):HAt ds pa ca B q w' v' l':=
 h.next hq k (fun x hx=>h.ra x (hp.mem_iff.1 hx)) (by rw[hp.length_eq];exact h.na)
set_option maxRecDepth 100000 in
set_option maxHeartbeats 2000000 in
theorem WQ(ds:List Int)(pa:Option Addr)(ca B q:Nat)(w:World)(v:Value)(l:List Int)(x:Int)(h:HAt ds pa ca B q w v l)(hx:0≤x∧x<(ds.length:Int))(hl:l.length<1000000):
  Calls prog 73 #[.iface 158 (.pointer (some ⟨q,0,none⟩)),.iface 3 (.int .i64 x)] w fun e w'=>e=.returned (.tuple #[])∧∃v' l',HAt ds pa ca B q w' v' l'∧Qa0 l' (x::l)∧QF q v w w'∧Nxt w v v':=by
 have hmp:=fun W=>Al7 ⟨q,0,none⟩ W
 have hml:=fun W=>Alv ⟨q,0,none⟩ W
 have hpu:=AbZ w B q _ v l x h.qa (by omega) h.bw
 have hlen:∀W v' m,QAt W B q (.func (.func 72) #[.slice pa ds.length ca] #[]) v' m→_:=fun W v' m hq=>QL W B q _ v' m hq
 have hw:wrap64 (((l++[x]).length:Int) -1)=(l.length:Int):=by unfold wrap64;simp;omega
 have hw2:((l++[x]).length:Int) -1=(l.length:Int):=by simp
 go_enter func73,ntmps73
 go_wp2_with (first|(go_at_call 376;refine hpu.mono ?_;rintro e w2 ⟨rfl,v2,hq2,hf2,hn2⟩;have h2:=h.next hq2 hf2 (fun y hy=>by
   rcases List.mem_append.1 hy with hy|hy
   ·exact h.ra y hy
   ·rw[List.mem_singleton.1 hy];exact hx) (by simp;omega))|(go_at_call 74;refine(hlen _ _ _ hq2).mono ?_;rintro e w3 ⟨rfl,rfl⟩)|(go_at_call 141;refine(Ajg ds pa ca B q _ _ _ l.length h2 (by simp)).mono ?_;rintro e w3 ⟨rfl,l3,h3,hp3,hf3⟩))
 go_end0
 exact⟨rfl,v2,l3,h3,hp3.trans (List.perm_append_singleton x l),hf2.trans hf3 hn2,hn2⟩
set_option maxRecDepth 100000 in
set_option maxHeartbeats 4000000 in
theorem Adu(ds:List Int)(pa:Option Addr)(ca B q:Nat)(w:World)(v:Value)(l:List Int)(n:Nat)(h:HAt ds pa ca B q w v l)(hn:n<l.length):
  Calls prog 142 #[.iface 158 (.pointer (some ⟨q,0,none⟩)),.int .i64 0,.int .i64 n] w fun e w'=>(∃r:Bool,e=.returned (.bool r))∧∃l',HAt ds pa ca B q w' v l'∧Qa0 l' l∧QF q v w w':=by
 go_enter func142,ntmps142
 go_wp2
 go_loopw [7] (fun t wr=>∃(k:Nat) (m:List Int),(k<n∨k=0)∧t=.int .i64 k∧Qa0 m l∧HAt ds pa ca B q wr v m∧QF q v w wr) (fun t _=>n -(Lib.intOf t).toNat)
 case atStart=>exact⟨0,l,.inr rfl,rfl,.refl _,h,QF.refl _ _ _⟩
 case round=>
  clear h;obtain⟨k,m,hk,hi,hm,h,hqf⟩:=hrel;subst hi;have hml:=hm.length_eq;have hna:=h.na
  have hmle:=fun W=>Aip ⟨q,0,none⟩ W
  have hmsw:=fun W=>AdK ⟨q,0,none⟩ W
  by_cases h1:n≤2*k+1
  ·have h1':(2*(k:Int)+1≥(n:Int)):=by omega
   go_wp2
   go_ret
   exact⟨⟨_,rfl⟩,m,h,hm,hqf⟩
  ·have hkn:k<n:=by omega
   have h1':¬(2*(k:Int)+1≥(n:Int)):=by omega
   have h1n:¬(2*(k:Int)+1<0):=by omega
   have hL:∀W (i j:Nat) (a b:Int),HAt ds pa ca B q W v m→i<m.length→j<m.length→a=(i:Int)→b=(j:Int)→Calls prog 374 #[.pointer (some ⟨q,0,none⟩),.int .i64 a,.int .i64 b] W fun e w'=>e=.returned (.bool (Zh ds (m.getD i 0) (m.getD j 0)))∧∃z,w'=W.drewN z:=by
    rintro W i j a b hW hi hj rfl rfl;exact UC ds pa ca W B q v m hW.qa hW.da hW.ra i j hi hj
   have hS:∀W (i j:Nat) (a b:Int),HAt ds pa ca B q W v m→QF q v w W→i<m.length→j<m.length→a=(i:Int)→b=(j:Int)→Calls prog 377 #[.pointer (some ⟨q,0,none⟩),.int .i64 a,.int .i64 b] W fun e w'=>e=.returned (.tuple #[])∧∃m',Qa0 m' l∧HAt ds pa ca B q w' v m'∧QF q v w w':=by
    rintro W i j a b hW hF hi hj rfl rfl;refine(OS W B q _ v m hW.qa i j hi hj).mono ?_;rintro e w3 ⟨rfl,hq3,hf3⟩;have hsp:=swap_perm hi hj;exact⟨rfl,_,hsp.trans hm,hW.of hq3 hf3 hsp,hF.trans hf3 (.inl rfl)⟩
   by_cases h2:2*k+2<n
   ·have h2':(2*(k:Int)+1+1<(n:Int)):=by omega
    have hl1:=hL wr (2*k+2) (2*k+1) (2*(k:Int)+1+1) (2*(k:Int)+1) h (by omega) (by omega) (by omega) (by omega);generalize Zh ds (m.getD (2*k+2) 0) (m.getD (2*k+1) 0)=r1 at hl1
    cases r1 with
    |true=>
     have hl2:=fun z=>hL (wr.drewN z) (2*k+2) k (2*(k:Int)+1+1) (k:Int) (h.draws z) (by omega) (by omega) (by omega) (by omega)
     have hs:=fun z=>hS (wr.drewN z) k (2*k+2) (k:Int) (2*(k:Int)+1+1) (h.draws z) (hqf.draws z) (by omega) (by omega) (by omega) (by omega)
     generalize Zh ds (m.getD (2*k+2) 0) (m.getD k 0)=r2 at hl2;have honce:True:=trivial
     cases r2 with
     |false=>
      go_wp2_with (first|(go_at_call 374;have hx:=honce;clear hx honce;refine hl1.mono ?_;rintro e w2 ⟨rfl,z,rfl⟩)|(go_at_call 374;refine(hl2 z).mono ?_;rintro e w2 ⟨rfl,z',rfl⟩))
      go_ret
      exact⟨⟨_,rfl⟩,m,h.draws _,hm,hqf.draws _⟩
     |true=>
      go_wp2_with (first|(go_at_call 374;have hx:=honce;clear hx honce;refine hl1.mono ?_;rintro e w2 ⟨rfl,z,rfl⟩)|(go_at_call 374;refine(hl2 z).mono ?_;rintro e w2 ⟨rfl,z',rfl⟩)|(go_at_call 377;refine(hs _).mono ?_;rintro e w3 ⟨rfl,m3,hm3,h3,hf3⟩))
      exact⟨⟨2*k+2,m3,.inl (by omega),rfl,hm3,h3,hf3⟩,by simp only[Lib.intOf];omega⟩
    |false=>
     have hl2:=fun z=>hL (wr.drewN z) (2*k+1) k (2*(k:Int)+1) (k:Int) (h.draws z) (by omega) (by omega) (by omega) (by omega)
     have hs:=fun z=>hS (wr.drewN z) k (2*k+1) (k:Int) (2*(k:Int)+1) (h.draws z) (hqf.draws z) (by omega) (by omega) (by omega) (by omega)
     generalize Zh ds (m.getD (2*k+1) 0) (m.getD k 0)=r2 at hl2;have honce:True:=trivial
     cases r2 with
     |false=>
      go_wp2_with (first|(go_at_call 374;have hx:=honce;clear hx honce;refine hl1.mono ?_;rintro e w2 ⟨rfl,z,rfl⟩)|(go_at_call 374;refine(hl2 z).mono ?_;rintro e w2 ⟨rfl,z',rfl⟩))
      go_ret
      exact⟨⟨_,rfl⟩,m,h.draws _,hm,hqf.draws _⟩
     |true=>
      go_wp2_with (first|(go_at_call 374;have hx:=honce;clear hx honce;refine hl1.mono ?_;rintro e w2 ⟨rfl,z,rfl⟩)|(go_at_call 374;refine(hl2 z).mono ?_;rintro e w2 ⟨rfl,z',rfl⟩)|(go_at_call 377;refine(hs _).mono ?_;rintro e w3 ⟨rfl,m3,hm3,h3,hf3⟩))
      exact⟨⟨2*k+1,m3,.inl (by omega),rfl,hm3,h3,hf3⟩,by simp only[Lib.intOf];omega⟩
   ·have h2':¬(2*(k:Int)+1+1<(n:Int)):=by omega
    have hl2:=fun z=>hL (wr.drewN z) (2*k+1) k (2*(k:Int)+1) (k:Int) (h.draws z) (by omega) (by omega) (by omega) (by omega)
    have hs:=fun z=>hS (wr.drewN z) k (2*k+1) (k:Int) (2*(k:Int)+1) (h.draws z) (hqf.draws z) (by omega) (by omega) (by omega) (by omega)
    generalize Zh ds (m.getD (2*k+1) 0) (m.getD k 0)=r2 at hl2;have honce:True:=trivial
    cases r2 with
    |false=>
     go_wp2_with (first|(go_at_call 374;refine(hl2 0).mono ?_;rintro e w2 ⟨rfl,z',rfl⟩))
     go_ret
     exact⟨⟨_,rfl⟩,m,h.draws _,hm,hqf.draws _⟩
    |true=>
     go_wp2_with (first|(go_at_call 374;refine(hl2 0).mono ?_;rintro e w2 ⟨rfl,z',rfl⟩)|(go_at_call 377;refine(hs _).mono ?_;rintro e w3 ⟨rfl,m3,hm3,h3,hf3⟩))
     exact⟨⟨2*k+1,m3,.inl (by omega),rfl,hm3,h3,hf3⟩,by simp only[Lib.intOf];omega⟩
end Go.Proofs.Tryz
