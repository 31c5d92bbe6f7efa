import Derived.Test.YtblkhnacgnlbdaaGreatDoorEN1
set_option linter.all false
namespace Go.Den
theorem ga {A B:Prop} (b:B) (h:B→A:=by
  first
    | (show _→WpO _ _ _ _ _ _;first
      | exact rv
      | exact wp_ld rfl
      | exact wp_ld8 rfl (by first | omega | (simp only [ext_size,str8_len,u8l_len,List.length_map,List.length_set,List.length_append,List.length_take,List.length_drop,List.length_replicate,List.length_cons,List.length_nil] at *;omega))
      | exact wp_ldw rfl rfl
      | exact ro
      | exact rk
      | exact ra rfl rfl (by first | omega | (simp only [ext_size,str8_len,u8l_len,List.length_map,List.length_set,List.length_append,List.length_take,List.length_drop,List.length_replicate,List.length_cons,List.length_nil] at *;omega))
      | exact rs rfl rfl (by first | omega | (simp only [ext_size,str8_len,u8l_len,List.length_map,List.length_set,List.length_append,List.length_take,List.length_drop,List.length_replicate,List.length_cons,List.length_nil] at *;omega))
      | exact rm rfl rfl (by first | omega | (simp only [ext_size,str8_len,u8l_len,List.length_map,List.length_set,List.length_append,List.length_take,List.length_drop,List.length_replicate,List.length_cons,List.length_nil] at *;omega))
      | exact wp_buildU rfl
      | exact wp_build
      | exact rshr rfl rfl (by omega)
      | exact rmin rfl rfl
      | exact rmax rfl rfl
      | exact fun b=>WpO.mk (Go.Den.x b))
    | (show _→WpK _ _ _ _;first | exact kT rfl | exact kF rfl)
    | exact bE
    | exact bO rfl
    | (show _→ycleanB _ _ _=true∧_;exact fun b=>And.intro rfl b)
    | (show _→hasUq _=false∧_;exact fun b=>And.intro rfl b)
    | (show _→List.all _ _=true∧_;exact fun b=>And.intro rfl b)):A:=h b
theorem gb {A B:Prop} (b:B) (h:B→A:=by
  (show _→WpO _ _ _ _ _ _)
  first
    | exact wp_ld8l rfl (by first | omega | (simp only [ext_size,str8_len,u8l_len,List.length_map,List.length_set,List.length_append,List.length_take,List.length_drop,List.length_replicate,List.length_cons,List.length_nil] at *;omega))
    | exact r1 rfl rfl (by first | omega | (simp only [ext_size,str8_len,u8l_len,List.length_map,List.length_set,List.length_append,List.length_take,List.length_drop,List.length_replicate,List.length_cons,List.length_nil] at *;omega))
    | exact r2 rfl rfl (by first | omega | (simp only [ext_size,str8_len,u8l_len,List.length_map,List.length_set,List.length_append,List.length_take,List.length_drop,List.length_replicate,List.length_cons,List.length_nil] at *;omega))
    | exact r3 rfl rfl rfl (by first | omega | (simp only [ext_size,str8_len,u8l_len,List.length_map,List.length_set,List.length_append,List.length_take,List.length_drop,List.length_replicate,List.length_cons,List.length_nil] at *;omega))
    | exact ri rfl rfl (by first | omega | (simp only [ext_size,str8_len,u8l_len,List.length_map,List.length_set,List.length_append,List.length_take,List.length_drop,List.length_replicate,List.length_cons,List.length_nil] at *;omega))
    | exact rb rfl (by first | omega | (simp only [ext_size,str8_len,u8l_len,List.length_map,List.length_set,List.length_append,List.length_take,List.length_drop,List.length_replicate,List.length_cons,List.length_nil] at *;omega))
    | exact rq rfl rfl (by first | omega | (simp only [ext_size,str8_len,u8l_len,List.length_map,List.length_set,List.length_append,List.length_take,List.length_drop,List.length_replicate,List.length_cons,List.length_nil] at *;omega))
    | exact rr rfl rfl (by first | omega | (simp only [ext_size,str8_len,u8l_len,List.length_map,List.length_set,List.length_append,List.length_take,List.length_drop,List.length_replicate,List.length_cons,List.length_nil] at *;omega))
    | exact rg (o:=.bin _ .add _ _) rfl (fun hc=>pa rfl rfl (by have hh1:=hc.1;have hh2:=hc.2;(try simp [GH,yget] at hh1 hh2);first | omega | (simp only [List.length_map,u8l_len] at *;omega))) rfl
    | exact rg (o:=.bin _ .sub _ _) rfl (fun hc=>ps rfl rfl (by have hh1:=hc.1;have hh2:=hc.2;(try simp [GH,yget] at hh1 hh2);first | omega | (simp only [List.length_map,u8l_len] at *;omega))) rfl
    | exact rg rfl (fun _=>rfl) rfl
    | exact rg (o:=.slc _ _ _ _ (some _) none _) rfl (fun hc=>ps1 rfl rfl (by have hh1:=hc.1;have hh2:=hc.2;(try simp [GH,yget] at hh1 hh2);first | omega | (simp only [List.length_map,u8l_len] at *;omega))) rfl
    | exact rg (o:=.slc _ _ _ _ none (some _) _) rfl (fun hc=>ps2 rfl rfl (by have hh1:=hc.1;have hh2:=hc.2;(try simp [GH,yget] at hh1 hh2);first | omega | (simp only [List.length_map,u8l_len] at *;omega))) rfl
    | exact rg (o:=.slc _ _ _ _ (some _) (some _) _) rfl (fun hc=>ps3 rfl rfl rfl (by have hh1:=hc.1;have hh2:=hc.2;(try simp [GH,yget] at hh1 hh2);first | omega | (simp only [List.length_map,u8l_len] at *;omega))) rfl
    | exact rg (o:=.ixs _ _ _) rfl (fun hc=>pi rfl rfl (by have hh1:=hc.1;have hh2:=hc.2;(try simp [GH,yget] at hh1 hh2);first | omega | (simp only [List.length_map,u8l_len] at *;omega))) rfl
    | exact rgu rfl
    | exact wp_new
    | exact wp_box rfl rfl
    | exact wp_st rfl rfl rfl rfl rfl
    | exact wp_stm rfl rfl rfl rfl rfl rfl rfl
    | exact rmin rfl rfl
    | exact rmax rfl rfl
    | exact wp_mkf rfl rfl rfl rfl
    | exact wp_iaS rfl rfl (by first | omega | (simp only [ext_size,str8_len,u8l_len,List.length_map,List.length_set,List.length_append,List.length_take,List.length_drop,List.length_replicate,List.length_cons,List.length_nil] at *;omega))
    | exact wp_iaA rfl rfl rfl (by first | omega | (simp only [ext_size,str8_len,u8l_len,List.length_map,List.length_set,List.length_append,List.length_take,List.length_drop,List.length_replicate,List.length_cons,List.length_nil] at *;omega))
    | exact wp_ob rfl (pb rfl (by first | omega | (simp only [ext_size,str8_len,u8l_len,List.length_map,List.length_set,List.length_append,List.length_take,List.length_drop,List.length_replicate,List.length_cons,List.length_nil] at *;omega))) rfl
    | exact wp_ob rfl (pmk rfl rfl (by first | omega | (simp only [ext_size,str8_len,u8l_len,List.length_map,List.length_set,List.length_append,List.length_take,List.length_drop,List.length_replicate,List.length_cons,List.length_nil] at *;omega)) rfl) rfl
    | exact wp_mks rfl rfl rfl (by first | omega | (simp only [ext_size,str8_len,u8l_len,List.length_map,List.length_set,List.length_append,List.length_take,List.length_drop,List.length_replicate,List.length_cons,List.length_nil] at *;omega))
    | exact wp_slcA rfl rfl (by first | omega | (simp only [ext_size,str8_len,u8l_len,List.length_map,List.length_set,List.length_append,List.length_take,List.length_drop,List.length_replicate,List.length_cons,List.length_nil] at *;omega))
    | exact wp_slcSh rfl rfl (by first | omega | (simp only [ext_size,str8_len,u8l_len,List.length_map,List.length_set,List.length_append,List.length_take,List.length_drop,List.length_replicate,List.length_cons,List.length_nil] at *;omega))
    | exact wp_slcSl rfl rfl (by first | omega | (simp only [ext_size,str8_len,u8l_len,List.length_map,List.length_set,List.length_append,List.length_take,List.length_drop,List.length_replicate,List.length_cons,List.length_nil] at *;omega))
    | exact wp_rng rfl
    | exact wp_lds rfl rfl rfl rfl rfl
    | exact wp_ldsu rfl rfl rfl rfl
    | exact fun b=>wp_lit rfl (And.intro rfl b)
    | exact wp_appT rfl rfl rfl (by first | omega | (simp only [ext_size,str8_len,u8l_len,List.length_map,List.length_set,List.length_append,List.length_take,List.length_drop,List.length_replicate,List.length_cons,List.length_nil] at *;omega))
    | exact wp_appU rfl rfl (by first | omega | (simp only [ext_size,str8_len,u8l_len,List.length_map,List.length_set,List.length_append,List.length_take,List.length_drop,List.length_replicate,List.length_cons,List.length_nil] at *;omega))
    | exact wp_appS rfl rfl (by first | omega | (simp only [ext_size,str8_len,u8l_len,List.length_map,List.length_set,List.length_append,List.length_take,List.length_drop,List.length_replicate,List.length_cons,List.length_nil] at *;omega))
    | exact wp_ldpinM rfl (by first | omega | (simp only [ext_size,str8_len,u8l_len,List.length_map,List.length_set,List.length_append,List.length_take,List.length_drop,List.length_replicate,List.length_cons,List.length_nil] at *;omega))
    | exact wp_ldRM rfl rfl (by first | omega | (simp only [ext_size,str8_len,u8l_len,List.length_map,List.length_set,List.length_append,List.length_take,List.length_drop,List.length_replicate,List.length_cons,List.length_nil] at *;omega))
    | exact wp_stRM _ rfl rfl rfl (by first | omega | (simp only [ext_size,str8_len,u8l_len,List.length_map,List.length_set,List.length_append,List.length_take,List.length_drop,List.length_replicate,List.length_cons,List.length_nil] at *;omega)) rfl (fun _=>Nat.le_of_ble_eq_true rfl) (fun _=>rfl)
    | exact wp_st8 rfl rfl rfl (by first | omega | (simp only [ext_size,str8_len,u8l_len,List.length_map,List.length_set,List.length_append,List.length_take,List.length_drop,List.length_replicate,List.length_cons,List.length_nil] at *;omega)) (by first | omega | exact u8_r _)
    | exact wp_b2s rfl
    | exact wp_b2sA rfl rfl (by first | omega | (simp only [ext_size,str8_len,u8l_len,List.length_map,List.length_set,List.length_append,List.length_take,List.length_drop,List.length_replicate,List.length_cons,List.length_nil] at *;omega))
    | exact rcat rfl rfl (by first | omega | (simp only [ext_size,str8_len,u8l_len,List.length_map,List.length_set,List.length_append,List.length_take,List.length_drop,List.length_replicate,List.length_cons,List.length_nil] at *;omega))
    | exact wp_slcSm rfl rfl rfl (by first | omega | (simp only [ext_size,str8_len,u8l_len,List.length_map,List.length_set,List.length_append,List.length_take,List.length_drop,List.length_replicate,List.length_cons,List.length_nil] at *;omega))
    | exact wp_ldx rfl rfl (by first | assumption | omega | decide)
    | exact wp_ldpx rfl rfl (by first | assumption | omega | decide)
    | exact wp_sto rfl rfl rfl rfl (by first | assumption | omega | decide) rfl
    | exact wp_stmo rfl rfl rfl rfl rfl rfl (by first | assumption | omega | decide) rfl
    | exact wp_ldsp rfl rfl (by first | assumption | omega | decide) rfl rfl rfl
    | exact wp_ldso rfl rfl (by first | assumption | omega | decide) rfl rfl
    | exact rg (o:=.ld _ none _) rfl (fun _=>pldx rfl rfl (by first | assumption | omega | decide) rfl rfl rfl) rfl
    | exact rg (o:=.ia _ _ _ _) rfl (fun hc=>pia rfl rfl rfl (by have hh1:=hc.1;have hh2:=hc.2;(try simp [GH,yget] at hh1 hh2);first | omega | (simp only [List.length_map,u8l_len] at *;omega))) rfl
    | exact rg (o:=.ld _ none _) rfl (fun hc=>pldM rfl (by have hh1:=hc.1;have hh2:=hc.2;(try simp [GH,yget] at hh1 hh2);first | omega | (simp only [List.length_map,u8l_len] at *;omega)) (fun _=>rfl) (fun _=>rfl) (fun _=>rfl)) rfl
    | exact rg (o:=.ldp _ none _) rfl (fun hc=>pldpM rfl (by have hh1:=hc.1;have hh2:=hc.2;(try simp [GH,yget] at hh1 hh2);first | omega | (simp only [List.length_map,u8l_len] at *;omega)) (fun _=>rfl) (fun _=>rfl) (fun _=>rfl)) rfl
    | exact wp_ldpMs rfl (by first | omega | (simp only [ext_size,str8_len,u8l_len,List.length_map,List.length_set,List.length_append,List.length_take,List.length_drop,List.length_replicate,List.length_cons,List.length_nil] at *;omega))
    | exact wp_ldo rfl
    | exact wp_ldpM rfl (by first | omega | (simp only [ext_size,str8_len,u8l_len,List.length_map,List.length_set,List.length_append,List.length_take,List.length_drop,List.length_replicate,List.length_cons,List.length_nil] at *;omega)) (fun _=>rfl) (fun _=>rfl) (fun _=>rfl)):A:=h b
theorem gd {A B C:Prop} (b:B) (c:C) (h:B→C→A:=by
  first
    | (show _→_→WpO _ _ _ _ _ _;exact wp_nxt rfl rfl)
    | (show _→_→WpK _ _ _ _;exact kP rfl)):A:=h b c
theorem ge {A B:Prop} (b:B) (h:B→A:=by
  first
    | exact r_t rfl rfl rfl
    | exact r_a rfl rfl rfl (by first | omega | (simp only [ext_size,str8_len,u8l_len,List.length_map,List.length_set,List.length_append,List.length_take,List.length_drop,List.length_replicate,List.length_cons,List.length_nil] at *;omega))
    | exact r_a0 rfl rfl rfl (by first | omega | (simp only [ext_size,str8_len,u8l_len,List.length_map,List.length_set,List.length_append,List.length_take,List.length_drop,List.length_replicate,List.length_cons,List.length_nil] at *;omega))
    | exact r_u rfl rfl
    | exact r_b rfl rfl rfl rfl rfl
    | exact r_c rfl rfl rfl rfl rfl rfl rfl
    | exact r_cm rfl rfl rfl rfl rfl rfl rfl
    | (show _→FinS _ _ _;exact fin_c rfl)
    | (show _→FinA _ _ _ _;exact fin_b rfl)):A:=h b
theorem om {P:Prop} (h:P:=by first | omega | (simp only [ext_size,str8_len,u8l_len,List.length_map,List.length_set,List.length_append,List.length_take,List.length_drop,List.length_replicate,List.length_cons,List.length_nil] at *;omega)):P:=h
theorem ol {P:Prop} (h:P:=by
  (try simp only [List.length_replicate,List.length_map,List.length_set,ext_size,List.length_append,List.length_cons,List.length_nil,List.length_take,List.length_drop]);first | done | assumption | omega):P:=h
theorem so {P:Nat→Option Fun} {n d:Nat} {o:O} {y:Ys} {k:Ys→Prop} (h:WpO P n d o y k):WpO P n d o y k:=h
theorem xq {α:Type} {a:α} {q:α→Prop} (h:q a):∃ v,some a=some v∧q v:=⟨a,rfl,h⟩
theorem cr {P:Nat→Option Fun} {n d:Nat} {y:Ys} {t f:Nat} {raw:Bool} {fv:A} {xs:List A} {a b vs:List V} {w w2:V} {k:Ys→Prop} (hL:∃ v,Val P f (a++vs.map V.sh++b) v∧v=w) (e1:ev y [] fv=some (.fn f a b)) (e2:evL y [] xs=some vs) (e3:vs.all plainV=true) (e4:(keysL (a++vs.map V.sh++b)).isEmpty=true) (e5:recvP w=some w2) (h:putK n y t w2 k):WpO P n d (.call (some t) raw false fv xs) y k:=wp_call hL e1 e2 e3 e4 (by rintro _ rfl;exact ⟨_,e5,h⟩)
theorem sv {P:Nat→Option Fun} (F:Fun) {f:Nat} {args:List V} {Φ:V→Prop} (h:∀ Q,Fin F Φ=Q→wpC P F.nt 0 F.body ⟨yinit 0 args,[],fun _=>none,false⟩ Q) (hP:P f=some F:=by rfl) (hl:Nat.ble args.length F.nt=true:=by rfl):∃ v,Val P f args v∧Φ v:=val_y hP (Nat.le_of_ble_eq_true hl) (h _ rfl)
theorem sA {P:Nat→Option Fun} {d:Nat} (F:Fun) {f:Nat} {args:List V} {g:Frm} {Ψ:V→Frm→Bool→Prop} (h:∀ Q,FinB F d Ψ=Q→wpC P F.nt d F.body ⟨yinit 0 args,[],g,false⟩ Q) (hP:P f=some F:=by rfl) (hl:Nat.ble args.length F.nt=true:=by rfl):∃ v fs w,D P f d args g=some (v,fs,w)∧Ψ v fs w:=run_y hP (Nat.le_of_ble_eq_true hl) (h _ rfl)
end Go.Den
