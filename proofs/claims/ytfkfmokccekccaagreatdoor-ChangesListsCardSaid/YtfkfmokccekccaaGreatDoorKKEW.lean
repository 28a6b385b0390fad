/- changes.Everywhere, walked; as a contract. -/
import Derived.Test.YtfkfmokccekccaaGreatDoorKKEV
import Derived.Test.YtfkfmokccekccaaGreatDoorKKRW
import Derived.Test.YtfkfmokccekccaaGreatDoorKSm5
set_option linter.unusedVariables false
set_option linter.unusedSimpArgs false
namespace Go.VS
theorem Mh{C C':Ctx}{w w':World}(hC:∀b,b<w.heap.size→C'.zb b∧C'.zt b)(hw:∀b,b<w.heap.size→w'.heap[b]?=w.heap[b]?):∀(t:BT) {tt tt':TT} (_:tt.shared=true) (_:tt'.shared=true) (x:t.D) {m:List Value} {f:List Nat},RVs C w (t.enc tt x) m f→RVs C' w' (t.enc tt' x) m []
 |.int _,_,_,_,_,_,_,_,h=>RVs.reads hC hw h rfl
 |.bool,_,_,_,_,_,_,_,h=>RVs.reads hC hw h rfl
 |.str,_,_,_,_,_,_,_,h=>RVs.reads hC hw h rfl
 |.unit,_,_,_,_,_,_,_,h=>RVs.reads hC hw h rfl
 |.pair a b,tt,tt',h1,h2,x,m,f,h=>by
  obtain⟨m1,m2,f1,f2,rfl,rfl,k1,k2⟩:=RVs.split (a.enc tt.fst x.1) (show RVs C w (a.enc tt.fst x.1++b.enc tt.snd x.2) m f from h)
  have:=(Mh hC hw a (Ct h1).2.2.1 (Ct h2).2.2.1 x.1 k1).append (Mh hC hw b (Ct h1).2.2.2 (Ct h2).2.2.2 x.2 k2)
  rw[List.append_nil]at this
  exact this
 |.sl e,tt,tt',h1,h2,l,m,f,h=>by
  have key:∀(l:List e.D) {m:List Value} {f:List Nat},RVs C w (l.map (e.enc tt.elt)).flatten m f→RVs C' w' (l.map (e.enc tt'.elt)).flatten m []:=by
   intro l
   induction l with
   |nil=>exact fun h=>RVs.reads hC hw h rfl
   |cons y r ih=>
    intro m f h
    rw[List.map_cons,List.flatten_cons]at h
    obtain⟨m1,m2,f1,f2,rfl,rfl,k1,k2⟩:=RVs.split _ h
    rw[List.map_cons,List.flatten_cons]
    have:=(Mh hC hw e (Ct h1).2.1 (Ct h2).2.1 y k1).append (ih k2)
    rw[List.append_nil]at this
    exact this
  obtain⟨v,rfl,h3⟩:=RVs.BV (show RVs C w [.sl tt.tag e.size (l.map (e.enc tt.elt))] m f from h)
  clear h
  have hlen:(l.map (e.enc tt.elt)).length=(l.map (e.enc tt'.elt)).length:=by rw[List.length_map,List.length_map]
  have hkk:∀x∈l.map (e.enc tt'.elt),x.length=e.size:=fun x hx=>by
   obtain⟨y,_,rfl⟩:=List.mem_map.1 hx
   exact Cs e _ y
  refine RVs.one (show RV C' w' (.sl tt'.tag e.size (l.map (e.enc tt'.elt))) v []from ?_)
  have ht:=(Ct h1).1
  have ht':=(Ct h2).1
  generalize ha:AV.sl tt.tag e.size (l.map (e.enc tt.elt))=a at h3
  cases h3 with
  |slNil τ k=>
   simp only[AV.sl.injEq]at ha
   have:l=[]:=List.map_eq_nil_iff.1 ha.2.2
   subst this
   exact .slNil _ _
  |shrE τ k a cap hτ=>
   simp only[AV.sl.injEq]at ha
   have:l=[]:=List.map_eq_nil_iff.1 ha.2.2
   subst this
   exact .shrE _ _ a cap ht'
  |own k xs b off cap cs e' f hb hs hc hm hk hr=>
   simp only[AV.sl.injEq]at ha
   exact absurd ha.1 ht
  |shr τ k xs b off cap cs e' fz hτ hz hi hb hs hc hk hr=>
   simp only[AV.sl.injEq]at ha
   obtain⟨rfl,rfl,rfl⟩:=ha
   have hlt:b<w.heap.size:=(Array.getElem?_eq_some_iff.1 hb).1
   have:=RV.shr (C:=C') (w:=w') tt'.tag e.size (l.map (e.enc tt'.elt)) b off cap cs e' fz ht' (hC b hlt).1 (fun _=>(hC b hlt).2) (by rw[hw b hlt];exact hb) (by rw[←hlen];exact hs) (by rw[←hlen];exact hc) hkk (by rw[←hlen];exact key l hr)
   rw[←hlen]at this
   exact this
  |_=>cases ha
theorem XJ{P:Pg}{w:World}{vs:Array Value}{t:BT}{tt tt':TT}(h1:tt.shared=true)(h2:tt'.shared=true){x:t.D}{a b:AV}(ha:t.enc tt x=[a])(hb:t.enc tt' x=[b]){rest:List SV}(h:Reads P w (.one a::rest) vs)(hsol:b.solid=true):Reads P w (.one b::rest) vs:=by
 obtain⟨hs,hat⟩:=h
 refine⟨hs,fun i s hi=>?_⟩
 match i,hi with
 |0,hi=>
  cases hi
  obtain⟨_,h0⟩:=hat 0 (.one a) rfl
  refine⟨by show[b].all AV.solid=true;simp[hsol],fun C hP hC=>?_⟩
  have hr:RV C w a (vs.getD 0 undef) []:=h0 C hP hC
  have:=Mh (C:=C) (C':=C) (w:=w) (w':=w) hC (fun _ _=>rfl) t h1 h2 x (m:=[vs.getD 0 undef]) (f:=[]) (by rw[ha];exact RVs.one hr)
  rw[hb]at this
  obtain⟨v,hv,hr2⟩:=RVs.BV this
  cases hv
  exact hr2
 |i+1,hi=>exact hat (i+1) s hi
end Go.VS
namespace Go.Proofs.Tryz
open Go.Shelf Go.RowKit Go.VS Go Go.Maps Go.Sort
theorem AaL{C:Ctx}{w:World}{τ:Tag}{l:List AD}{v:Value}{f:List Nat}(h:RV C w (.sl τ 2 (l.map ((BT.pair .str (.int .i64)).enc .leaf))) v f):∃a c,v=.slice a l.length c∧UO w a l:=by
 rcases Aaj h with⟨hn,a,c,rfl⟩|⟨b,off,c,rfl,hlt,hat⟩
 ·have hn:l=[]:=List.map_eq_nil_iff.1 hn
  subst hn
  exact⟨a,c,rfl,⟨fun k x hx=>nomatch hx⟩⟩
 ·refine⟨some ⟨b,off,none⟩,c,by rw[List.length_map],⟨fun k x hx=>⟨b,off,rfl,hlt,?_,?_⟩⟩⟩
  ·have:=L6 (enc:=(BT.pair .str (.int .i64)).enc .leaf) (k:=2) (fun x=>Cs _ _ x) l (j:=k) (x:=x) (c:=0) hx (by omega)
   obtain⟨u,g,hu,hr⟩:=hat (k*2) (.lit (.string ⟨x.1.toArray⟩)) (by rw[←Nat.add_zero (k*2)];exact this)
   have:=RV.Dm hr
   subst this
   exact hu
  ·have:=L6 (enc:=(BT.pair .str (.int .i64)).enc .leaf) (k:=2) (fun x=>Cs _ _ x) l (j:=k) (x:=x) (c:=1) hx (by omega)
   obtain⟨u,g,hu,hr⟩:=hat (k*2+1) (.lit (.int .i64 x.2)) this
   have:=RV.Dm hr
   subst this
   exact hu
theorem Aa7{C:Ctx}{w:World}{τ:Tag}{tt:TT}(htt:tt.elt=.leaf){L:List (List AD)}{v:Value}{f:List Nat}(h:RV C w (.sl τ 1 (L.map ((BT.sl (.pair .str (.int .i64))).enc tt))) v f):∃a c,v=.slice a L.length c∧TG w a L:=by
 rcases Aaj h with⟨hn,a,c,rfl⟩|⟨b,off,c,rfl,hlt,hat⟩
 ·have hn:L=[]:=List.map_eq_nil_iff.1 hn
  subst hn
  exact⟨a,c,rfl,⟨fun k x hx=>nomatch hx⟩⟩
 ·refine⟨some ⟨b,off,none⟩,c,by rw[List.length_map],⟨fun k x hx=>?_⟩⟩
  have:=L6 (enc:=(BT.sl (.pair .str (.int .i64))).enc tt) (k:=1) (fun x=>Cs _ _ x) L (j:=k) (x:=x) (c:=0) hx (by omega)
  obtain⟨u,g,hu,hr⟩:=hat k _ (by rw[Nat.mul_one,Nat.add_zero]at this;exact this)
  rw[htt]at hr
  obtain⟨pl,cl,rfl,hd⟩:=AaL hr
  exact⟨b,off,pl,cl,rfl,hlt,hu,hd⟩
def ON(w:World)(B:Nat)(v:Value)(l:List Bs):Prop:=w.ownsRow B 9 1 v l.length (l.map encStr)
theorem Abe{w:World}{B B':Nat}{v:Value}{l:List Bs}(h:ON w B v l)(hb:B'≤B):ON w B' v l:=by
 refine⟨h.1,?_⟩
 rcases h.2 with h|⟨g,cap,cur,h1,h2,h3,h4⟩
 ·exact .inl h
 ·exact .inr ⟨g,cap,cur,h1,Nat.le_trans hb h2,h3,h4⟩
theorem R6{w w':World}{B:Nat}{v:Value}{l:List Bs}(h:ON w B v l)(hb:Below w.heap.size w w'):ON w' B v l:=by
 refine⟨h.1,?_⟩
 rcases h.2 with h|⟨g,cap,cur,h1,h2,h3,h4⟩
 ·exact .inl h
 ·have hlt:g<w.heap.size:=(Array.getElem?_eq_some_iff.1 h3).1
  exact .inr ⟨g,cap,cur,h1,h2,(hb.block g hlt).trans h3,h4⟩
theorem Kc{w:World}{B:Nat}{v:Value}{l:List Bs}(h:ON w B v l)(o:Obj):ON (w.alloc o) B v l:=World.ownsRow.alloc h o
theorem Ahr(B:Nat){ops:Array Oper}{rest:List Oper}{o:Oper}{a:Act}{Q:Exit→Act→World→Prop}{s x:Operand}{w1:World}{v:Value}{l:List Bs}{g:Nat}{p:Bs}
  (hgd:o.guard=none) (ho:o.op=.call {callee:=.builtin .append,args:=#[s,x],argTypes:=#[36,36]}) (hs:a.eval s=v) (hown:ON w1 B v l)
  (hx:a.eval x=.slice (some ⟨g,0,none⟩) 1 1) (hc0:w1.cell? ⟨g,0,none⟩=some (.string ⟨p.toArray⟩)) (hn:l.length≤100000000) (hB:B≤w1.heap.size)
  (hk:∀v' w',ON w' B v' (l++[p])→w1.grownBy w' v.ownBlock→wpList prog ops Q rest (a.put o.dst v') w'):wpList prog ops Q (o::rest) a w1:=by
 obtain⟨i0,hi,hz0,hz1,hz2⟩:=info_parts (P:=prog) (e:=9) (z:=.string ⟨#[]⟩) (size:=1) (bytes:=16) (by kernel_rfl)
 refine wpList_append_own w1 hgd s x 36 ho B 9 i0 (.string ⟨#[]⟩) 1 16 underlying36 hi hz0 hz1 hz2 rfl (by decide) v l.length _ hs hown ⟨g,0,none⟩ 1 1 [.string ⟨p.toArray⟩] hx rfl ?_ ?_ ?_ ?_ hB ?_
 ·intro j u hj
  match j,hj with
  |0,hj=>
   have:Value.string ⟨p.toArray⟩=u:=by simpa using hj
   subst this
   exact hc0
  |j+1,hj=>simp at hj
 ·intro u hu
  simp only[List.mem_cons,List.not_mem_nil,or_false]at hu
  rcases hu with rfl
  rfl
 ·unfold maxLen;omega
 ·omega
 ·intro v' w' h1 h2 _
  refine hk v' w' ?_ h2
  unfold ON
  rw[List.length_append,List.map_append]
  exact h1
theorem YG(L:List (List AD)){ds:List AD}{k:Nat}{x:AD}(h:ds[k]?=some x):G0 L (ds.take (k+1))=G0 L (ds.take k)++(if Jr L x.1 then[x.1]else[]):=by
 unfold G0
 rw[List.take_add_one,h,List.filter_append,List.map_append]
 simp only[Option.toList_some,List.filter_cons,List.filter_nil]
 split<;>rfl
theorem Acz{L:List (List AD)}{ds:List AD}(h:L[0]?=some ds):Lc L=G0 L ds:=by
 unfold Lc
 rw[List.getD_eq_getElem?_getD,h]
 rfl
theorem AdC(W:World)(B f:Nat)(cs:Array Value)(T:TypeId)(hB:B=W.heap.size):(store ⟨B,0,none⟩ (.func (.func f) #[] cs)).run prog (W.alloc (.cells #[.nilFunc] T))=.ok () (W.alloc (.cells #[.func (.func f) #[] cs] T)):=by
 subst hB
 rw[Nf (u:=.nilFunc) rfl (by simp) (by simp),World.setCell_alloc_at _ _ _ _ _ rfl]
 simp
set_option maxHeartbeats 4000000 in
set_option maxRecDepth 1000000 in
theorem Aer(OfG:List (List AD)→Prop)(hG:∀L,OfG L→0<L.length∧L.length≤1000000∧∀l∈L,l.length≤1000000∧∀t∈l,t.1.length≤140737488351232)(pa:Option Addr)(n ca:Nat)(c:Int)(w:World)
  (hck:Calls prog 47 #[.slice pa n ca,.int .i64 c] w fun e w'=>e=.returned (.int .i64 0)∧Below w.heap.size w w')
  (hof:∀W,Below w.heap.size w W→Calls prog 48 #[.slice pa n ca,.int .i64 c] W fun e w'=>∃L pl cl,OfG L∧e=.returned (.slice pl L.length cl)∧TG w' pl L∧Below W.heap.size W w'):
  Calls prog 16 #[.slice pa n ca,.int .i64 c] w fun e w'=>∃L v,OfG L∧ON w' w.heap.size v (Lc L)∧e=.returned (.tuple #[v,.int .i64 0])∧Below w.heap.size w w':=by
 go_enter func16,ntmps16
 have honce:True:=trivial
 go_wp2_with (go_at_call 47;have hx:=honce;clear hx honce;refine hck.mono ?_;rintro e w1 ⟨rfl,hB1⟩)
 have hof1:=hof w1 hB1
 go_wp2_with (go_at_call 48;refine hof1.mono ?_;rintro e w2 ⟨L,pl,cl,hQ,rfl,hL,hB2⟩;obtain⟨hpos,hn,hl⟩:=hG L hQ;obtain⟨ds,h0⟩:∃ds,L[0]?=some ds:=⟨_,List.getElem?_eq_getElem hpos⟩;have hcf:=AaI L hl hn;obtain⟨bl,off,pd,cd,rfl,hbl,hc0,hd⟩:=hL.at_ 0 ds h0;rw[Nat.add_zero]at hc0)
 have hB02:=hB1.trans (hB2.mono hB1.size)
 have hbd:∀t∈ds,t.1.length≤140737488351232:=(hl _ (List.mem_of_getElem? h0)).2
 have hbn:ds.length≤1000000:=(hl _ (List.mem_of_getElem? h0)).1
 clear hof hof1 hck hB1 hB2
 go_wp2
 have hown0:ON w2 w2.heap.size (.slice none 0 0) (G0 L (ds.take 0)):=World.ownsRow_nil _ _ _ _
 go_loopw [8,25] (fun v i wr=>∃k:Nat,k≤ds.length∧i=.int .i64 k∧ON wr w2.heap.size v (G0 L (ds.take k))∧Below w2.heap.size w2 wr) (fun _ i _=>ds.length -(Lib.intOf i).toNat)
 case atStart=>exact⟨0,Nat.zero_le _,rfl,hown0,Below.refl _ w2⟩
 case round=>
  clear hown0
  obtain⟨k,hk,hi,hown,hB⟩:=hrel
  subst hi
  by_cases hks:k<ds.length
  ·obtain⟨bd,od,rfl,hbd2,q0,q1⟩:=hd.at_ k ds[k] (List.getElem?_eq_getElem hks)
   have c0:=(hB.cell (p:=⟨bd,od+k*2,none⟩) hbd2).trans q0
   have c1:=(hB.cell (p:=⟨bd,od+k*2+1,none⟩) hbd2).trans q1
   have hlp:=hbd _ (List.getElem_mem hks)
   have hnx:=YG L (List.getElem?_eq_getElem hks)
   have hol:(G0 L (ds.take k)).length≤1000000:=by
    unfold G0
    rw[List.length_map]
    refine Nat.le_trans (List.length_filter_le _ _) ?_
    rw[List.length_take]
    omega
   generalize ds[k]=x at c0 c1 hlp hnx
   obtain⟨p,kd⟩:=x
   dsimp only at c0 c1 hlp hnx
   have hst:=AdC (wr.alloc (.cells #[.string ⟨p.toArray⟩,.int .i64 kd] 73)) (wr.heap.size+1) 52 #[.pointer (some ⟨wr.heap.size,0,none⟩)] 91 (by simp)
   have hBd:Below wr.heap.size wr (wr.alloc (.cells #[.string ⟨p.toArray⟩,.int .i64 kd] 73)):=(Below.refl _ wr).alloc (Nat.le_refl _) _
   have hBi:Below wr.heap.size wr ((wr.alloc (.cells #[.string ⟨p.toArray⟩,.int .i64 kd] 73)).alloc (.cells #[.func (.func 52) #[] #[.pointer (some ⟨wr.heap.size,0,none⟩)]] 91)):=hBd.alloc (by simp) _
   have hBi2:=hB.trans (hBi.mono hB.size)
   have hE:Aas ((wr.alloc (.cells #[.string ⟨p.toArray⟩,.int .i64 kd] 73)).alloc (.cells #[.func (.func 52) #[] #[.pointer (some ⟨wr.heap.size,0,none⟩)]] 91)) (some ⟨bl,off,none⟩) L p wr.heap.size (wr.heap.size+1):=
    ⟨hL.below hBi2,by simp,by simp;omega,by simp,by simp⟩
   have hcon:=hcf p hlp (some ⟨bl,off,none⟩) cl wr.heap.size (wr.heap.size+1) _ hE
   have hown2:ON _ w2.heap.size u8 _:=Kc (Kc hown (.cells #[.string ⟨p.toArray⟩,.int .i64 kd] 73)) (.cells #[.func (.func 52) #[] #[.pointer (some ⟨wr.heap.size,0,none⟩)]] 91)
   have hds:((wr.alloc (.cells #[.string ⟨p.toArray⟩,.int .i64 kd] 73)).alloc (.cells #[.func (.func 52) #[] #[.pointer (some ⟨wr.heap.size,0,none⟩)]] 91)).heap.size=wr.heap.size+2:=by simp
   have hdc:=hE.d
   clear hE hown hBd hBi hB q0 q1
   cases hr:Jr L p with
   |false=>
    rw[hr]at hcon hnx
    rw[if_neg (by decide),List.append_nil]at hnx
    rw[←hnx]at hown2
    clear hr hnx hdc
    go_wp2_with (go_at_call 55;refine hcon.mono ?_;rintro e w5 ⟨rfl,hB5⟩)
    go_roundw
    case rel=>exact⟨k+1,by omega,by simp,R6 hown2 hB5,hBi2.trans (hB5.mono hBi2.size)⟩
    case measure=>simp only[Lib.intOf];omega
   |true=>
    rw[hr]at hcon hnx
    rw[if_pos rfl]at hnx
    clear hr
    go_wp2_with (first|(go_at_call 55;refine hcon.mono ?_;rintro e w5 ⟨rfl,hB5⟩;have hdc5:=(hB5.cell (p:=⟨wr.heap.size,0,none⟩) (by show wr.heap.size<_;rw[hds];omega)).trans hdc;have hown5:=R6 hown2 hB5)|(at_builtin;refine Ahr w2.heap.size (p:=p) rfl rfl rfl (Kc hown5 _) rfl ?b0 ?b1 ?b2 ?b3))
    case b0=>simp
    case b1=>exact Nat.le_trans hol (by decide)
    case b2=>have:=(hBi2.trans (hB5.mono hBi2.size)).size;simp;omega
    case b3=>
     intro v2 w8 hown8 hg8
     rw[←hnx]at hown8
     have hB8:=LX ((hBi2.trans (hB5.mono hBi2.size)).alloc (hBi2.trans (hB5.mono hBi2.size)).size _) (Kc hown5 _) hg8 (Nat.le_refl _)
     clear hcon hdc hdc5 hown2 hown5 hnx hB5 hBi2 hg8
     go_wp2
     go_roundw
     case rel=>exact⟨k+1,by omega,by simp,hown8,hB8⟩
     case measure=>simp only[Lib.intOf];omega
  ·have hke:k=ds.length:=by omega
   subst hke
   rw[List.take_length]at hown
   clear hd hc0 hL hcf
   go_wp2
   go_ret2
   exact⟨L,_,hQ,by rw[Acz h0];exact Abe hown hB02.size,rfl,hB02.trans (hB.mono hB02.size)⟩
theorem Afd(l:List Bs):l.map encStr=(l.map BT.str.fl).flatten:=by
 induction l with
 |nil=>rfl
 |cons x l ih=>rw[List.map_cons,List.map_cons,List.flatten_cons,ih];rfl
theorem Aeq(hC:EX (Pg.of prog))(hO:VY (Pg.of prog)):QI (Pg.of prog):=by
 rintro⟨g,c⟩ hs
 dsimp only at hs
 refine Fn.Vt (ps:=[.val false (.sl AB) (.node .brw (.pair (.node .brw .leaf) (.pair .leaf (.node .brw .leaf)))),.val false (.int .i64) .leaf]) (t:=.str) (tt:=.node .own .leaf) rfl rfl (g,c) fun f fn hf hfn=>?_
 have hfi:f=16:=IM (by kernel_rfl) hf hfn
 subst hfi
 have hfe:=Option.some.inj (hf.symm.trans func16)
 subst hfe
 refine⟨by kernel_rfl,by kernel_rfl,fun μ sv w vs hsv hw hargs=>?_⟩
 have hsv:svs μ dv dl [.one (.sl .brw (.pair (.node .brw .leaf) (.pair .leaf (.node .brw .leaf))) AB g),.one (.int .i64 c)] sv:=hsv
 match sv,hsv with
 |[s0,s1],⟨⟨a0,e0,r0⟩,⟨a1,e1,r1⟩,_⟩=>
  have r0:a0=.sl .brw AB.size (g.map (AB.enc (.pair (.node .brw .leaf) (.pair .leaf (.node .brw .leaf))))):=r0
  have r1:a1=.lit (.int .i64 c):=r1
  subst e0 r0 e1 r1
  have hrdW:∀W:World,Below w.heap.size w W→Reads (Pg.of prog) W [.one (.sl .brw AB.size (g.map (AB.enc (.pair (.node .brw .leaf) (.pair .leaf (.node .brw .leaf)))))),.one (.lit (.int .i64 c))] vs:=fun W hB=>by
   refine UB hargs (fun s hs=>?_) (fun b hb=>hB.block b hb) hB.size
   simp only[List.mem_cons,List.not_mem_nil,or_false]at hs
   rcases hs with rfl|rfl
   ·exact⟨_,rfl,by simp only[AV.rdo];exact Mf (fun x=>NW AB _ rfl x) g⟩
   ·exact⟨_,rfl,rfl⟩
  obtain⟨hsize,hat⟩:=hargs
  obtain⟨C0,f0,_,h0⟩:=hat 0 _ rfl
  obtain⟨C1,f1,_,h1⟩:=hat 1 _ rfl
  obtain⟨pa,n,ca,hv0⟩:=Aal (show RV C0 w (.sl .brw AB.size (g.map (AB.enc (.pair (.node .brw .leaf) (.pair .leaf (.node .brw .leaf)))))) (vs.getD 0 undef) f0 from h0)
  have hv1:vs.getD 1 undef=.int .i64 c:=RV.Dm (show RV C1 w (.lit (.int .i64 c)) (vs.getD 1 undef) f1 from h1)
  have hvs:=Ahf hsize hv0 hv1
  subst hvs
  have hck:Calls prog 47 #[.slice pa n ca,.int .i64 c] w fun e w'=>∃r:Int,(∃e,DC g e∧(e≠0→r=e)∧(e=0→(inR g c→r=0)∧(¬inR g c→r=5)))∧e=.returned (.int .i64 r)∧Below w.heap.size w w':=by
   refine(Fn.YB (fun _ h=>h) (S:=BI) rfl rfl (hC (g,c) hs) func47 (by kernel_rfl) hw (μ:=μ) (show svs μ dv dl [.one (.sl .brw (.pair (.node .brw .leaf) (.pair .leaf (.node .brw .leaf))) AB g),.one (.int .i64 c)] [.one (.sl .brw AB.size (g.map (AB.enc (.pair (.node .brw .leaf) (.pair .leaf (.node .brw .leaf)))))),.one (.lit (.int .i64 c))]from⟨⟨_,rfl,rfl⟩,⟨_,rfl,rfl⟩,trivial⟩) (hrdW w (Below.refl _ w))).mono ?_
   rintro e w' ⟨r,d,hr,rfl,hB⟩
   exact⟨r,hr,rfl,hB⟩
  by_cases hok:DC g 0∧inR g c
  ·obtain⟨hg0,hin⟩:=hok
   have k:=D4 hg0
   have hok0:Calls prog 47 #[.slice pa n ca,.int .i64 c] w fun e w'=>e=.returned (.int .i64 0)∧Below w.heap.size w w':=hck.mono (by
    rintro e w' ⟨r,⟨k,hk,h1,h2⟩,rfl,hB⟩
    have:=Gm hk hg0
    subst this
    have hr:=(h2 rfl).1 hin
    subst hr
    exact⟨rfl,hB⟩)
   have hT:=EF hg0 hs hin
   have hF:=D9 hg0 hs hin
   refine(Aer (Ny g c) (fun L hL=>?_) pa n ca c w hok0 fun W hB=>?_).mono ?_
   ·obtain⟨q1,q2,q3⟩:=Og hg0 hs hin hL
    refine⟨q1,q2,fun l hl=>?_⟩
    obtain⟨j,hj⟩:=List.getElem?_of_mem hl
    obtain⟨hjl,he⟩:=List.getElem?_eq_some_iff.1 hj
    have q4:=q3 j hjl
    rw[getD_eq hjl,he]at q4
    refine⟨by omega,fun t ht=>?_⟩
    have hd:=Abd hg0 hs hin hL hjl
    rw[getD_eq hjl,he]at hd
    rcases Vn hd ht with⟨f,hf,e⟩|⟨f,hf,e⟩
    ·rw[←e];exact((hT _ (A6 (d:=[]) (show j<(BH g c).length by have:=hL.1;omega))).2.2 f hf).1
    ·rw[←e];exact(hF.2.2 f hf).1
   ·refine(Fn.Aeh (fun _ h=>h) (ps:=Dk.ps) rfl (hO (g,c) hin (Ec k.2.1) (FT k.1 _ hin) (fun t ht=>(hT t ht).2) hF.2) func48 (by kernel_rfl) (hw.of hB) (μ:=μ) (show svs μ dv dl [.one (.sl .imm (.pair (.node .imm .leaf) (.pair .leaf (.node .imm .leaf))) AB g),.one (.int .i64 c)] [.one (.sl .imm AB.size (g.map (AB.enc (.pair (.node .imm .leaf) (.pair .leaf (.node .imm .leaf)))))),.one (.lit (.int .i64 c))]from⟨⟨_,rfl,rfl⟩,⟨_,rfl,rfl⟩,trivial⟩) (XJ (t:=.sl AB) (tt:=.node .brw (.pair (.node .brw .leaf) (.pair .leaf (.node .brw .leaf)))) (tt':=.node .imm (.pair (.node .imm .leaf) (.pair .leaf (.node .imm .leaf)))) rfl rfl (x:=g) rfl rfl (hrdW W hB) rfl)).mono ?_
    rintro e w' ⟨hB2,L,d,hL,v,C,f,rfl,hrv,_⟩
    obtain⟨pl,cl,rfl,hls⟩:=Aa7 rfl hrv
    exact⟨L,pl,cl,hL,rfl,hls,hB2⟩
   ·rintro e w' ⟨L,v,hL,hown,rfl,hB⟩
    have hrow:w'.ownsRow w.heap.size 9 BT.str.size v (Lc L).length ((Lc L).map BT.str.fl).flatten:=by
     rw[←Afd]
     exact hown
    obtain⟨_,f,hnd,hfb,hrv⟩:=UE (t:=.str) rfl hrow
    refine⟨hB,Lc L,0,(),⟨0,hg0,fun h=>absurd rfl h,fun _ h=>absurd hin h,fun _ _=>⟨L,hL,rfl⟩⟩,v,f,fun _=>False,rfl,?_,hnd,fun x hx=>⟨(hfb x hx).1,(hfb x hx).2,id⟩,fun _ h=>h.elim⟩
    have:=RVs.cons _ _ _ _ _ _ (hrv (hctx prog fun _=>False)) .nil
    rw[List.append_nil]at this
    exact this
  ·refine(PQ pa n ca c w (fun r=>MR g c ([],r)∧¬r=0) (fun r hr=>hr.2) (hck.mono ?_)).mono ?_
   ·rintro e w' ⟨r,⟨k,hk,h1,h2⟩,rfl,hB⟩
    refine⟨r,?_,rfl,hB⟩
    by_cases hk0:k=0
    ·subst hk0
     have hnin:¬inR g c:=fun h=>hok ⟨hk,h⟩
     have hr:=(h2 rfl).2 hnin
     subst hr
     exact⟨⟨0,hk,fun h=>absurd rfl h,fun _ _=>rfl,fun _ h=>absurd h hnin⟩,by decide⟩
    ·have hr:=h1 hk0
     subst hr
     exact⟨⟨_,hk,fun _=>rfl,fun h=>absurd h hk0,fun h=>absurd h hk0⟩,hk0⟩
   ·rintro e w' ⟨r,⟨hr,_⟩,rfl,hB⟩
    exact⟨hB,[],_,(),hr,_,[],fun _=>False,rfl,.cons _ _ [] _ _ [] (.slNil _ _) .nil,List.nodup_nil,fun x hx=>(nomatch hx),fun _ h=>h.elim⟩
end Go.Proofs.Tryz
