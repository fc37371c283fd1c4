/- The pure models. -/
import Derived.Test.YthpibdcdeopneaaTy
namespace Go.Px
open Go.Proofs
set_option linter.unusedVariables false
noncomputable def mem_New  : Option ((Sl Gmem_Block)) :=
  some (⟨[], false⟩ : Sl Gmem_Block)
noncomputable def mem_Memory_Alloc_K1 (k_18 : Sl Gmem_Block) (n_5 : Int) (used_4 : Int) (y_20 : Unit) : Option (Gmem_Value × Bool × (Sl Gmem_Block) × Int) :=
  some ((⟨2, 0, k_18.len⟩ : Gmem_Value), true, k_18, IntKind.i64.wrap (used_4 + (IntKind.i64.wrap (n_5 + 1))))
noncomputable def mem_Memory_Alloc (x_3 : Sl Gmem_Block) (used_4 : Int) (n_5 : Int) : Option (Gmem_Value × Bool × (Sl Gmem_Block) × Int) :=
  if ((decide (n_5 < 0) || decide (256 < n_5)) || decide (4096 < (IntKind.i64.wrap ((IntKind.i64.wrap (used_4 + n_5)) + 1)))) then
    some ((⟨0, 0, 0⟩ : Gmem_Value), false, x_3, used_4)
  else
    Option.bind (gmake 24 n_5 (⟨0, 0, 0⟩ : Gmem_Value)) fun k_12 =>
    Option.bind (gmake 8 n_5 0) fun k_14 =>
    Option.bind (gmake 1 n_5 false) fun k_16 =>
    Option.bind (gapp 80 x_3 [(⟨true, k_12, k_14, k_16⟩ : Gmem_Block)]) fun k_18 =>
    mem_Memory_Alloc_K1 k_18 n_5 used_4 ()
noncomputable def mem_Memory_Used (x_3 : Sl Gmem_Block) (used_4 : Int) : Option Unit :=
  some ()
noncomputable def mem_Memory_block (x_3 : Sl Gmem_Block) (used_4 : Int) (p_6 : Gmem_Value) : Option ((Option Int) × Int) :=
  if decide (p_6.Kind ≠ 2) then
    some ((none : Option Int), 1)
  else
    Option.bind (if (decide (p_6.Block < 1) || decide (x_3.len < p_6.Block)) then
        some true
      else
        Option.bind (gidx x_3 (IntKind.i64.wrap (p_6.Block - 1))) fun x_15 =>
        some (!x_15.Live)) fun y_14 =>
    if y_14 then
      some ((none : Option Int), 2)
    else
      Option.bind (gidx x_3 (IntKind.i64.wrap (p_6.Block - 1))) fun x_25 =>
      some ((some (IntKind.i64.wrap (p_6.Block - 1))), 0)
noncomputable def mem_Memory_cell (x_3 : Sl Gmem_Block) (used_4 : Int) (p_6 : Gmem_Value) : Option ((Option Int) × Int) :=
  Option.bind (mem_Memory_block x_3 used_4 p_6) fun r_10 =>
  Option.bind (if decide (r_10.2 = 0) then
      Option.bind (if decide (p_6.N < 0) then
          some true
        else
          Option.bind (r_10.1) fun i_22 =>
          Option.bind (gidx x_3 i_22) fun x_24 =>
          some (decide (x_24.Cells.len ≤ p_6.N))) fun y_21 =>
      some y_21
    else
      some false) fun y_19 =>
  if y_19 then
    some ((none : Option Int), 3)
  else
    some (r_10.1, r_10.2)
noncomputable def mem_Memory_Begin (x_3 : Sl Gmem_Block) (used_4 : Int) (p_6 : Gmem_Value) (write_8 : Bool) : Option (Int × (Sl Gmem_Block)) :=
  Option.bind (mem_Memory_cell x_3 used_4 p_6) fun r_11 =>
  Option.bind (
      Option.bind (
          if decide (r_11.2 ≠ 0) then
            (some (.b r_11.2) : Option (W2 ((Sl Gmem_Block)) Int))
          else
            Option.bind (r_11.1) fun i_20 =>
            Option.bind (gidx x_3 i_20) fun x_22 =>
            Option.bind (gidx x_22.Writer p_6.N) fun x_35 =>
            Option.bind (if x_35 then
                some true
              else
                Option.bind (if write_8 then
                    Option.bind (gidx x_22.Readers p_6.N) fun x_47 =>
                    some (decide (0 < x_47))
                  else
                    some false) fun y_44 =>
                some y_44) fun y_42 =>
            Option.bind (
                if y_42 then
                  (some (.b ()) : Option (W2 ((Sl Gmem_Block)) Unit))
                else
                  Option.bind (
                      if write_8 then
                        Option.bind (gset x_22.Writer p_6.N true) fun s_76 =>
                        (some (Sl.set x_3 i_20 (⟨x_22.Live, x_22.Cells, x_22.Readers, s_76⟩ : Gmem_Block)) : Option ((Sl Gmem_Block)))
                      else
                        Option.bind (gidx x_22.Readers p_6.N) fun x_91 =>
                        Option.bind (gset x_22.Readers p_6.N (IntKind.i64.wrap (x_91 + 1))) fun s_98 =>
                        (some (Sl.set x_3 i_20 (⟨x_22.Live, x_22.Cells, s_98, x_22.Writer⟩ : Gmem_Block)) : Option ((Sl Gmem_Block)))) fun y_101 =>
                  (some (.a y_101) : Option (W2 ((Sl Gmem_Block)) Unit))) fun y_105 =>
            match y_105 with
            | .a y_106 =>
              (some (.a y_106) : Option (W2 ((Sl Gmem_Block)) Int))
            | .b y_110 =>
              (some (.b 6) : Option (W2 ((Sl Gmem_Block)) Int))) fun y_114 =>
      match y_114 with
      | .a y_115 =>
        (some (.a y_115) : Option (W2 ((Sl Gmem_Block)) Int))
      | .b y_119 =>
        (some (.b y_119) : Option (W2 ((Sl Gmem_Block)) Int))) fun y_123 =>
  match y_123 with
  | .a y_124 =>
    some (0, y_124)
  | .b y_128 =>
    some (y_128, x_3)
noncomputable def mem_Value_plain (v_2 : Gmem_Value) : Option Gmem_Value :=
  Option.bind (
      Option.bind (
          if decide (v_2.Kind = 1) then
            (some (.a (⟨v_2.Kind, v_2.N, 0⟩ : Gmem_Value)) : Option (W2 Gmem_Value Unit))
          else
            if decide (v_2.Kind = 2) then
              (some (.a v_2) : Option (W2 Gmem_Value Unit))
            else
              (some (.b ()) : Option (W2 Gmem_Value Unit))) fun y_10 =>
      match y_10 with
      | .a y_11 =>
        (some (.a y_11) : Option (W2 Gmem_Value Unit))
      | .b y_15 =>
        (some (.b ()) : Option (W2 Gmem_Value Unit))) fun y_19 =>
  match y_19 with
  | .a y_20 =>
    some y_20
  | .b y_24 =>
    some (⟨0, 0, 0⟩ : Gmem_Value)
noncomputable def mem_Memory_End_K1 (i_90 : Int) (k_112 : Gmem_Block) (k_118 : Sl Gmem_Value) (s_108 : Sl Bool) (x_3 : Sl Gmem_Block) (x_92 : Gmem_Block) (y_120 : Unit) : Option (Gmem_Value × Int × (Sl Gmem_Block)) :=
  some ((⟨0, 0, 0⟩ : Gmem_Value), 0, (Sl.set (Sl.set x_3 i_90 (⟨x_92.Live, x_92.Cells, x_92.Readers, s_108⟩ : Gmem_Block)) i_90 (⟨k_112.Live, k_118, k_112.Readers, k_112.Writer⟩ : Gmem_Block)))
noncomputable def mem_Memory_End (x_3 : Sl Gmem_Block) (used_4 : Int) (p_6 : Gmem_Value) (write_8 : Bool) (v_10 : Gmem_Value) : Option (Gmem_Value × Int × (Sl Gmem_Block)) :=
  Option.bind (mem_Memory_cell x_3 used_4 p_6) fun r_18 =>
  if decide (r_18.2 ≠ 0) then
    some ((⟨0, 0, 0⟩ : Gmem_Value), r_18.2, x_3)
  else
    Option.bind (if write_8 then
        Option.bind (r_18.1) fun i_29 =>
        Option.bind (gidx x_3 i_29) fun x_31 =>
        Option.bind (gidx x_31.Writer p_6.N) fun x_44 =>
        some (!x_44)
      else
        some false) fun y_28 =>
    Option.bind (if y_28 then
        some true
      else
        Option.bind (if !write_8 then
            Option.bind (r_18.1) fun i_58 =>
            Option.bind (gidx x_3 i_58) fun x_60 =>
            Option.bind (gidx x_60.Readers p_6.N) fun x_73 =>
            some (decide (x_73 = 0))
          else
            some false) fun y_57 =>
        some y_57) fun y_55 =>
    if y_55 then
      some ((⟨0, 0, 0⟩ : Gmem_Value), 6, x_3)
    else
      if write_8 then
        Option.bind (r_18.1) fun i_90 =>
        Option.bind (gidx x_3 i_90) fun x_92 =>
        Option.bind (gidx x_92.Writer p_6.N) fun x_105 =>
        Option.bind (gset x_92.Writer p_6.N false) fun s_108 =>
        Option.bind (gidx (Sl.set x_3 i_90 (⟨x_92.Live, x_92.Cells, x_92.Readers, s_108⟩ : Gmem_Block)) i_90) fun k_112 =>
        Option.bind (mem_Value_plain v_10) fun k_114 =>
        Option.bind (gidx k_112.Cells p_6.N) fun k_116 =>
        Option.bind (gset k_112.Cells p_6.N k_114) fun k_118 =>
        mem_Memory_End_K1 i_90 k_112 k_118 s_108 x_3 x_92 ()
      else
        Option.bind (r_18.1) fun i_171 =>
        Option.bind (gidx x_3 i_171) fun x_173 =>
        Option.bind (gidx x_173.Readers p_6.N) fun x_186 =>
        Option.bind (gset x_173.Readers p_6.N (IntKind.i64.wrap (x_186 - 1))) fun s_193 =>
        Option.bind (gidx (Sl.set x_3 i_171 (⟨x_173.Live, x_173.Cells, s_193, x_173.Writer⟩ : Gmem_Block)) i_171) fun x_197 =>
        Option.bind (gidx x_197.Cells p_6.N) fun x_210 =>
        if decide (x_210.Kind = 0) then
          some ((⟨0, 0, 0⟩ : Gmem_Value), 4, (Sl.set x_3 i_171 (⟨x_173.Live, x_173.Cells, s_193, x_173.Writer⟩ : Gmem_Block)))
        else
          some (x_210, 0, (Sl.set x_3 i_171 (⟨x_173.Live, x_173.Cells, s_193, x_173.Writer⟩ : Gmem_Block)))
noncomputable def lychgatelaw06_wakes  : Option Bool :=
  Option.bind (mem_New) fun r_1 =>
  Option.bind (mem_Memory_Alloc r_1 0 2) fun r_12 =>
  Option.bind (if (!r_12.2.1 || !(decide (r_12.1 = (⟨2, 0, 1⟩ : Gmem_Value)))) then
      some true
    else
      Option.bind (mem_Memory_Used r_12.2.2.1 r_12.2.2.2) fun r_25 =>
      some (decide (r_12.2.2.2 ≠ 3))) fun y_24 =>
  Option.bind (if y_24 then
      some (r_12.2.2.1, true)
    else
      Option.bind (mem_Memory_Begin r_12.2.2.1 r_12.2.2.2 r_12.1 false) fun r_37 =>
      some (r_37.2, decide (r_37.1 ≠ 0))) fun y_36 =>
  if y_36.2 then
    some false
  else
    Option.bind (mem_Memory_End y_36.1 r_12.2.2.2 r_12.1 false r_12.1) fun r_48 =>
    Option.bind (mem_Memory_Begin r_48.2.2 r_12.2.2.2 r_12.1 true) fun r_57 =>
    Option.bind (mem_Memory_Begin r_57.2 r_12.2.2.2 r_12.1 false) fun r_64 =>
    Option.bind (mem_Memory_End r_64.2 r_12.2.2.2 r_12.1 true (⟨1, 7, 0⟩ : Gmem_Value)) fun r_71 =>
    Option.bind (mem_Memory_Begin r_71.2.2 r_12.2.2.2 r_12.1 false) fun r_78 =>
    Option.bind (mem_Memory_End r_78.2 r_12.2.2.2 r_12.1 false r_12.1) fun r_85 =>
    some (((decide (r_48.2.1 = 4) && decide (r_64.1 = 6)) && decide (r_85.2.1 = 0)) && decide (r_85.1 = (⟨1, 7, 0⟩ : Gmem_Value)))
noncomputable def mem_Block_busy (Live_2 : Bool) (x_4 : Sl Gmem_Value) (x_6 : Sl Int) (x_8 : Sl Bool) (i_9 : Int) : Option Bool :=
  Option.bind (gidx x_6 i_9) fun x_10 =>
  Option.bind (if decide (0 < x_10) then
      some true
    else
      Option.bind (gidx x_8 i_9) fun x_16 =>
      some x_16) fun y_15 =>
  some y_15
noncomputable def mem_Memory_Free_L1 (x_21 : Gmem_Block) (x_3 : Sl Gmem_Block) (x_32 : (Option Int) × Int) : Option (Step ((Option Int) × Int) (W2 ((Option Int)) Unit)) :=
  if decide (x_32.2 < x_21.Cells.len) then
    Option.bind (x_32.1) fun i_37 =>
    Option.bind (gidx x_3 i_37) fun x_39 =>
    Option.bind (mem_Block_busy x_39.Live x_39.Cells x_39.Readers x_39.Writer x_32.2) fun r_50 =>
    if r_50 then
      some (.done (.b ()))
    else
      some (.next ((some i_37), IntKind.i64.wrap (x_32.2 + 1)))
  else
    some (.done (.a x_32.1))
noncomputable def mem_Memory_Free (x_3 : Sl Gmem_Block) (used_4 : Int) (p_6 : Gmem_Value) : Option (Int × (Sl Gmem_Block)) :=
  Option.bind (mem_Memory_block x_3 used_4 p_6) fun r_10 =>
  if decide (r_10.2 ≠ 0) then
    some (r_10.2, x_3)
  else
    if decide (p_6.N ≠ 0) then
      some (5, x_3)
    else
      Option.bind (r_10.1) fun i_19 =>
      Option.bind (gidx x_3 i_19) fun x_21 =>
      Option.bind (loopO (mem_Memory_Free_L1 x_21 x_3) (r_10.1, 0)) fun y_58 =>
      match y_58 with
      | .a y_59 =>
        Option.bind (y_59) fun i_63 =>
        Option.bind (gidx x_3 i_63) fun x_65 =>
        some (0, (Sl.set x_3 i_63 (⟨false, x_65.Cells, x_65.Readers, x_65.Writer⟩ : Gmem_Block)))
      | .b y_76 =>
        some (6, x_3)
noncomputable def lychgatelaw06_MemFull_L1 (free_5 : Sl Bool) (sizes_2 : Sl Int) (x_26 : (Sl Gmem_Block) × Int × Int × Int) : Option (Step ((Sl Gmem_Block) × Int × Int × Int) (W2 Unit Unit)) :=
  if decide (x_26.2.2.2 < sizes_2.len) then
    Option.bind (
        Option.bind (gidx sizes_2 x_26.2.2.2) fun x_32 =>
        Option.bind (mem_Memory_Alloc x_26.1 x_26.2.1 x_32) fun r_36 =>
        if (r_36.2.1 != ((decide (0 ≤ x_32) && decide (x_32 ≤ 256)) && decide ((IntKind.i64.wrap ((IntKind.i64.wrap (x_26.2.2.1 + x_32)) + 1)) ≤ 4096))) then
          (some (.b ()) : Option (W2 ((Sl Gmem_Block) × Int × Int) Unit))
        else
          if !r_36.2.1 then
            (some (.a (r_36.2.2.1, r_36.2.2.2, x_26.2.2.1)) : Option (W2 ((Sl Gmem_Block) × Int × Int) Unit))
          else
            Option.bind (mem_Memory_Used r_36.2.2.1 r_36.2.2.2) fun r_50 =>
            Option.bind (if decide (r_36.2.2.2 ≠ (IntKind.i64.wrap (x_26.2.2.1 + (IntKind.i64.wrap (x_32 + 1))))) then
                some (r_36.2.2.1, true)
              else
                Option.bind (if decide (x_26.2.2.2 < free_5.len) then
                    Option.bind (gidx free_5 x_26.2.2.2) fun x_61 =>
                    some x_61
                  else
                    some false) fun y_60 =>
                Option.bind (if y_60 then
                    Option.bind (mem_Memory_Free r_36.2.2.1 r_36.2.2.2 r_36.1) fun r_70 =>
                    Option.bind (if decide (r_70.1 ≠ 0) then
                        some (r_70.2, true)
                      else
                        Option.bind (mem_Memory_Free r_70.2 r_36.2.2.2 r_36.1) fun r_79 =>
                        some (r_79.2, decide (r_79.1 ≠ 2))) fun y_78 =>
                    some (y_78.1, y_78.2)
                  else
                    some (r_36.2.2.1, false)) fun y_69 =>
                some (y_69.1, y_69.2)) fun y_58 =>
            if y_58.2 then
              (some (.b ()) : Option (W2 ((Sl Gmem_Block) × Int × Int) Unit))
            else
              (some (.a (y_58.1, r_36.2.2.2, IntKind.i64.wrap (x_26.2.2.1 + (IntKind.i64.wrap (x_32 + 1))))) : Option (W2 ((Sl Gmem_Block) × Int × Int) Unit))) fun y_96 =>
    match y_96 with
    | .a y_97 =>
      some (.next (y_97.1, y_97.2.1, y_97.2.2, IntKind.i64.wrap (x_26.2.2.2 + 1)))
    | .b y_102 =>
      some (.done (.b ()))
  else
    some (.done (.a ()))
noncomputable def lychgatelaw06_MemFull (sizes_2 : Sl Int) (free_5 : Sl Bool) : Option Bool :=
  Option.bind (lychgatelaw06_wakes) fun r_7 =>
  if !r_7 then
    some false
  else
    Option.bind (mem_New) fun r_15 =>
    Option.bind (loopO (lychgatelaw06_MemFull_L1 free_5 sizes_2) (r_15, 0, 0, 0)) fun y_106 =>
    match y_106 with
    | .a y_107 =>
      some true
    | .b y_111 =>
      some false
noncomputable def mem_Memory_whole (x_3 : Sl Gmem_Block) (used_4 : Int) (p_6 : Gmem_Value) : Option ((Option Int) × Int) :=
  Option.bind (mem_Memory_cell x_3 used_4 p_6) fun r_10 =>
  if decide (r_10.2 ≠ 0) then
    some ((none : Option Int), r_10.2)
  else
    Option.bind (r_10.1) fun i_18 =>
    Option.bind (gidx x_3 i_18) fun x_20 =>
    Option.bind (mem_Block_busy x_20.Live x_20.Cells x_20.Readers x_20.Writer p_6.N) fun r_31 =>
    if r_31 then
      some ((none : Option Int), 6)
    else
      Option.bind (gidx x_20.Cells p_6.N) fun x_51 =>
      if decide (x_51.Kind = 0) then
        some ((none : Option Int), 4)
      else
        if decide (x_51.Kind ≠ 1) then
          some ((none : Option Int), 1)
        else
          some ((some i_18), 0)
noncomputable def mem_Memory_Lock (x_3 : Sl Gmem_Block) (used_4 : Int) (p_6 : Gmem_Value) : Option (Bool × Int × (Sl Gmem_Block)) :=
  Option.bind (mem_Memory_whole x_3 used_4 p_6) fun r_10 =>
  Option.bind (if decide (r_10.2 ≠ 0) then
      some true
    else
      Option.bind (r_10.1) fun i_20 =>
      Option.bind (gidx x_3 i_20) fun x_22 =>
      Option.bind (gidx x_22.Cells p_6.N) fun x_35 =>
      some (decide (x_35.N ≠ 0))) fun y_19 =>
  if y_19 then
    some (false, r_10.2, x_3)
  else
    Option.bind (r_10.1) fun i_47 =>
    Option.bind (gidx x_3 i_47) fun x_49 =>
    Option.bind (gidx x_49.Cells p_6.N) fun x_62 =>
    some (true, 0, (Sl.set x_3 i_47 (⟨x_49.Live, (Sl.set x_49.Cells p_6.N (⟨x_62.Kind, 1, x_62.Block⟩ : Gmem_Value)), x_49.Readers, x_49.Writer⟩ : Gmem_Block)))
noncomputable def mem_Memory_Unlock (x_3 : Sl Gmem_Block) (used_4 : Int) (p_6 : Gmem_Value) : Option (Int × (Sl Gmem_Block)) :=
  Option.bind (mem_Memory_whole x_3 used_4 p_6) fun r_10 =>
  Option.bind (
      if decide (r_10.2 = 0) then
        Option.bind (r_10.1) fun i_19 =>
        Option.bind (gidx x_3 i_19) fun x_21 =>
        Option.bind (gidx x_21.Cells p_6.N) fun x_34 =>
        (some (Sl.set x_3 i_19 (⟨x_21.Live, (Sl.set x_21.Cells p_6.N (⟨x_34.Kind, 0, x_34.Block⟩ : Gmem_Value)), x_21.Readers, x_21.Writer⟩ : Gmem_Block)) : Option ((Sl Gmem_Block)))
      else
        (some x_3 : Option ((Sl Gmem_Block)))) fun y_40 =>
  some (r_10.2, y_40)
noncomputable def lychgatelaw06_MemLocks_L1 (r_23 : Gmem_Value × Bool × (Sl Gmem_Block) × Int) (script_2 : Sl Bool) (x_55 : (Sl Gmem_Block) × Bool × Int) : Option (Step ((Sl Gmem_Block) × Bool × Int) (W2 Unit Unit)) :=
  if decide (x_55.2.2 < script_2.len) then
    Option.bind (
        Option.bind (gidx script_2 x_55.2.2) fun x_60 =>
        if !x_60 then
          Option.bind (mem_Memory_Unlock x_55.1 r_23.2.2.2 r_23.1) fun r_65 =>
          if decide (r_65.1 ≠ 0) then
            (some (.b ()) : Option (W2 ((Sl Gmem_Block) × Bool) Unit))
          else
            (some (.a (r_65.2, false)) : Option (W2 ((Sl Gmem_Block) × Bool) Unit))
        else
          Option.bind (mem_Memory_Lock x_55.1 r_23.2.2.2 r_23.1) fun r_73 =>
          if (decide (r_73.2.1 ≠ 0) || (r_73.1 == x_55.2.1)) then
            (some (.b ()) : Option (W2 ((Sl Gmem_Block) × Bool) Unit))
          else
            (some (.a (r_73.2.2, true)) : Option (W2 ((Sl Gmem_Block) × Bool) Unit))) fun y_82 =>
    match y_82 with
    | .a y_83 =>
      some (.next (y_83.1, y_83.2, IntKind.i64.wrap (x_55.2.2 + 1)))
    | .b y_87 =>
      some (.done (.b ()))
  else
    some (.done (.a ()))
noncomputable def lychgatelaw06_MemLocks (script_2 : Sl Bool) : Option Bool :=
  Option.bind (lychgatelaw06_wakes) fun r_4 =>
  if !r_4 then
    some false
  else
    Option.bind (mem_New) fun r_12 =>
    Option.bind (mem_Memory_Alloc r_12 0 1) fun r_23 =>
    Option.bind (mem_Memory_Lock r_23.2.2.1 r_23.2.2.2 r_23.1) fun r_33 =>
    if decide (r_33.2.1 ≠ 4) then
      some false
    else
      Option.bind (mem_Memory_Begin r_33.2.2 r_23.2.2.2 r_23.1 true) fun r_41 =>
      Option.bind (mem_Memory_End r_41.2 r_23.2.2.2 r_23.1 true (⟨1, 0, 0⟩ : Gmem_Value)) fun r_48 =>
      Option.bind (loopO (lychgatelaw06_MemLocks_L1 r_23 script_2) (r_48.2.2, false, 0)) fun y_91 =>
      match y_91 with
      | .a y_92 =>
        some true
      | .b y_96 =>
        some false
noncomputable def lychgatelaw06_MemRaces (write_2 : GSt50) (cell_4 : Int) (other_5 : Int) : Option Bool :=
  Option.bind (lychgatelaw06_wakes) fun r_9 =>
  if !r_9 then
    some false
  else
    Option.bind (mem_New) fun r_17 =>
    Option.bind (mem_Memory_Alloc r_17 0 5) fun r_28 =>
    Option.bind (gmod .i64 (if 0 < cell_4 then cell_4 else 0) 5) fun q_40 =>
    Option.bind (gmod .i64 (if 0 < other_5 then other_5 else 0) 5) fun q_42 =>
    Option.bind (mem_Memory_Begin r_28.2.2.1 r_28.2.2.2 (⟨r_28.1.Kind, q_40, r_28.1.Block⟩ : Gmem_Value) write_2.e0) fun r_44 =>
    if decide (r_44.1 ≠ 0) then
      some false
    else
      Option.bind (
          if (decide (q_40 = q_42) && (write_2.e0 || write_2.e1)) then
            (some 6 : Option Int)
          else
            (some 0 : Option Int)) fun y_55 =>
      Option.bind (mem_Memory_Begin r_44.2 r_28.2.2.2 (⟨r_28.1.Kind, q_42, r_28.1.Block⟩ : Gmem_Value) write_2.e1) fun r_59 =>
      Option.bind (if decide (r_59.1 ≠ y_55) then
          some (r_59.2, true)
        else
          Option.bind (mem_Memory_Free r_59.2 r_28.2.2.2 (⟨2, 0, 1⟩ : Gmem_Value)) fun r_68 =>
          some (r_68.2, decide (r_68.1 ≠ 6))) fun y_67 =>
      if y_67.2 then
        some false
      else
        Option.bind (mem_Memory_Lock y_67.1 r_28.2.2.2 (⟨r_28.1.Kind, q_40, r_28.1.Block⟩ : Gmem_Value)) fun r_79 =>
        Option.bind (if decide (r_79.2.1 = 6) then
            Option.bind (mem_Memory_Unlock r_79.2.2 r_28.2.2.2 (⟨r_28.1.Kind, q_40, r_28.1.Block⟩ : Gmem_Value)) fun r_88 =>
            some (decide (r_88.1 = 6))
          else
            some false) fun y_87 =>
        some y_87
noncomputable def lychgatelaw06_val (v_2 : Gmem_Value) : Option Unit :=
  some ()
noncomputable def lychgateref06_Alloc_L1 (n_9 : Int) (s_18 : Sl Bool) (x_27 : (Sl Glychgateref06_Cell) × Int) : Option (Step ((Sl Glychgateref06_Cell) × Int) ((Sl Glychgateref06_Cell))) :=
  if decide (x_27.2 < n_9) then
    Option.bind (gapp 56 x_27.1 [(⟨s_18.len, x_27.2, (⟨0, 0, 0⟩ : Glychgateref06_Value), 0, false⟩ : Glychgateref06_Cell)]) fun s_38 =>
    some (.next (s_38, IntKind.i64.wrap (x_27.2 + 1)))
  else
    some (.done x_27.1)
noncomputable def lychgateref06_Alloc (x_3 : Sl Bool) (x_5 : Sl Int) (x_7 : Sl Glychgateref06_Cell) (Used_8 : Int) (n_9 : Int) : Option (Glychgateref06_Value × Bool × (Sl Bool) × (Sl Int) × (Sl Glychgateref06_Cell) × Int) :=
  if ((decide (n_9 < 0) || decide (256 < n_9)) || decide (4096 < (IntKind.i64.wrap ((IntKind.i64.wrap (Used_8 + n_9)) + 1)))) then
    some ((⟨0, 0, 0⟩ : Glychgateref06_Value), false, x_3, x_5, x_7, Used_8)
  else
    Option.bind (gapp 1 x_3 [true]) fun s_18 =>
    Option.bind (gapp 8 x_5 [n_9]) fun s_24 =>
    Option.bind (loopO (lychgateref06_Alloc_L1 n_9 s_18) (x_7, 0)) fun y_43 =>
    some ((⟨2, 0, s_18.len⟩ : Glychgateref06_Value), true, s_18, s_24, y_43, IntKind.i64.wrap ((IntKind.i64.wrap (Used_8 + n_9)) + 1))
noncomputable def lychgateref06_live (x_3 : Sl Bool) (x_5 : Sl Int) (x_7 : Sl Glychgateref06_Cell) (Used_8 : Int) (p_10 : Glychgateref06_Value) : Option Int :=
  if decide (p_10.Kind ≠ 2) then
    some 1
  else
    if (decide (p_10.Block < 1) || decide (x_3.len < p_10.Block)) then
      some 2
    else
      Option.bind (gidx x_3 (IntKind.i64.wrap (p_10.Block - 1))) fun x_19 =>
      if !x_19 then
        some 2
      else
        some 0
noncomputable def lychgateref06_Free_L1 (p_10 : Glychgateref06_Value) (x_7 : Sl Glychgateref06_Cell) (x_23 : Int) : Option (Step Int (W2 Unit Unit)) :=
  if decide (x_23 < x_7.len) then
    Option.bind (gidx x_7 x_23) fun x_29 =>
    if (decide (x_29.Block = p_10.Block) && (decide (0 < x_29.Readers) || x_29.Writer)) then
      some (.done (.b ()))
    else
      some (.next (IntKind.i64.wrap (x_23 + 1)))
  else
    some (.done (.a ()))
noncomputable def lychgateref06_Free (x_3 : Sl Bool) (x_5 : Sl Int) (x_7 : Sl Glychgateref06_Cell) (Used_8 : Int) (p_10 : Glychgateref06_Value) : Option (Int × (Sl Bool)) :=
  Option.bind (lychgateref06_live x_3 x_5 x_7 Used_8 p_10) fun r_14 =>
  if decide (r_14 ≠ 0) then
    some (r_14, x_3)
  else
    if decide (p_10.N ≠ 0) then
      some (5, x_3)
    else
      Option.bind (loopO (lychgateref06_Free_L1 p_10 x_7) 0) fun y_40 =>
      match y_40 with
      | .a y_41 =>
        Option.bind (gidx x_3 (IntKind.i64.wrap (p_10.Block - 1))) fun x_46 =>
        Option.bind (gset x_3 (IntKind.i64.wrap (p_10.Block - 1)) false) fun s_48 =>
        some (0, s_48)
      | .b y_51 =>
        some (6, x_3)
noncomputable def lychgateref06_Find_L1 (p_10 : Glychgateref06_Value) (x_7 : Sl Glychgateref06_Cell) (x_22 : Int) : Option (Step Int (W2 Unit Int)) :=
  if decide (x_22 < x_7.len) then
    Option.bind (gidx x_7 x_22) fun x_28 =>
    if (decide (x_28.Block = p_10.Block) && decide (x_28.Number = p_10.N)) then
      some (.done (.b x_22))
    else
      some (.next (IntKind.i64.wrap (x_22 + 1)))
  else
    some (.done (.a ()))
noncomputable def lychgateref06_Find (x_3 : Sl Bool) (x_5 : Sl Int) (x_7 : Sl Glychgateref06_Cell) (Used_8 : Int) (p_10 : Glychgateref06_Value) : Option (Int × Int) :=
  Option.bind (lychgateref06_live x_3 x_5 x_7 Used_8 p_10) fun r_14 =>
  if decide (r_14 ≠ 0) then
    some ((-1), r_14)
  else
    Option.bind (loopO (lychgateref06_Find_L1 p_10 x_7) 0) fun y_36 =>
    match y_36 with
    | .a y_37 =>
      some ((-1), 3)
    | .b y_41 =>
      some (y_41, 0)
noncomputable def lychgateref06_Begin (x_3 : Sl Bool) (x_5 : Sl Int) (x_7 : Sl Glychgateref06_Cell) (Used_8 : Int) (p_10 : Glychgateref06_Value) (write_12 : Bool) : Option (Int × (Sl Glychgateref06_Cell)) :=
  Option.bind (lychgateref06_Find x_3 x_5 x_7 Used_8 p_10) fun r_15 =>
  if decide (r_15.2 ≠ 0) then
    some (r_15.2, x_7)
  else
    Option.bind (gidx x_7 r_15.1) fun x_23 =>
    if (x_23.Writer || (write_12 && decide (0 < x_23.Readers))) then
      some (6, x_7)
    else
      Option.bind (
          if write_12 then
            (some (Sl.set x_7 r_15.1 (⟨x_23.Block, x_23.Number, x_23.V, x_23.Readers, true⟩ : Glychgateref06_Cell)) : Option ((Sl Glychgateref06_Cell)))
          else
            (some (Sl.set x_7 r_15.1 (⟨x_23.Block, x_23.Number, x_23.V, IntKind.i64.wrap (x_23.Readers + 1), x_23.Writer⟩ : Glychgateref06_Cell)) : Option ((Sl Glychgateref06_Cell)))) fun y_42 =>
      some (0, y_42)
noncomputable def lychgateref06_Plain (v_2 : Glychgateref06_Value) : Option Glychgateref06_Value :=
  if decide (v_2.Kind = 1) then
    some (⟨1, v_2.N, 0⟩ : Glychgateref06_Value)
  else
    if decide (v_2.Kind = 2) then
      some v_2
    else
      some (⟨0, 0, 0⟩ : Glychgateref06_Value)
noncomputable def lychgateref06_End (x_3 : Sl Bool) (x_5 : Sl Int) (x_7 : Sl Glychgateref06_Cell) (Used_8 : Int) (p_10 : Glychgateref06_Value) (write_12 : Bool) (v_14 : Glychgateref06_Value) : Option (Glychgateref06_Value × Int × (Sl Glychgateref06_Cell)) :=
  Option.bind (lychgateref06_Find x_3 x_5 x_7 Used_8 p_10) fun r_22 =>
  if decide (r_22.2 ≠ 0) then
    some ((⟨0, 0, 0⟩ : Glychgateref06_Value), r_22.2, x_7)
  else
    if write_12 then
      Option.bind (gidx x_7 r_22.1) fun x_31 =>
      if !x_31.Writer then
        some ((⟨0, 0, 0⟩ : Glychgateref06_Value), 6, x_7)
      else
        Option.bind (lychgateref06_Plain v_14) fun r_40 =>
        Option.bind (gidx (Sl.set x_7 r_22.1 (⟨x_31.Block, x_31.Number, x_31.V, x_31.Readers, false⟩ : Glychgateref06_Cell)) r_22.1) fun x_48 =>
        some ((⟨0, 0, 0⟩ : Glychgateref06_Value), 0, (Sl.set (Sl.set x_7 r_22.1 (⟨x_31.Block, x_31.Number, x_31.V, x_31.Readers, false⟩ : Glychgateref06_Cell)) r_22.1 (⟨x_48.Block, x_48.Number, r_40, x_48.Readers, x_48.Writer⟩ : Glychgateref06_Cell)))
    else
      Option.bind (gidx x_7 r_22.1) fun x_53 =>
      if decide (x_53.Readers = 0) then
        some ((⟨0, 0, 0⟩ : Glychgateref06_Value), 6, x_7)
      else
        Option.bind (gidx (Sl.set x_7 r_22.1 (⟨x_53.Block, x_53.Number, x_53.V, IntKind.i64.wrap (x_53.Readers - 1), x_53.Writer⟩ : Glychgateref06_Cell)) r_22.1) fun x_64 =>
        if decide (x_64.V.Kind = 0) then
          some ((⟨0, 0, 0⟩ : Glychgateref06_Value), 4, (Sl.set x_7 r_22.1 (⟨x_53.Block, x_53.Number, x_53.V, IntKind.i64.wrap (x_53.Readers - 1), x_53.Writer⟩ : Glychgateref06_Cell)))
        else
          some (x_64.V, 0, (Sl.set x_7 r_22.1 (⟨x_53.Block, x_53.Number, x_53.V, IntKind.i64.wrap (x_53.Readers - 1), x_53.Writer⟩ : Glychgateref06_Cell)))
noncomputable def lychgateref06_whole (x_3 : Sl Bool) (x_5 : Sl Int) (x_7 : Sl Glychgateref06_Cell) (Used_8 : Int) (p_10 : Glychgateref06_Value) : Option (Int × Int) :=
  Option.bind (lychgateref06_Find x_3 x_5 x_7 Used_8 p_10) fun r_14 =>
  if decide (r_14.2 ≠ 0) then
    some (r_14.1, r_14.2)
  else
    Option.bind (gidx x_7 r_14.1) fun x_22 =>
    if (decide (0 < x_22.Readers) || x_22.Writer) then
      some (r_14.1, 6)
    else
      if decide (x_22.V.Kind = 0) then
        some (r_14.1, 4)
      else
        if decide (x_22.V.Kind ≠ 1) then
          some (r_14.1, 1)
        else
          some (r_14.1, 0)
noncomputable def lychgateref06_Lock (x_3 : Sl Bool) (x_5 : Sl Int) (x_7 : Sl Glychgateref06_Cell) (Used_8 : Int) (p_10 : Glychgateref06_Value) : Option (Bool × Int × (Sl Glychgateref06_Cell)) :=
  Option.bind (lychgateref06_whole x_3 x_5 x_7 Used_8 p_10) fun r_14 =>
  if decide (r_14.2 ≠ 0) then
    some (false, r_14.2, x_7)
  else
    Option.bind (gidx x_7 r_14.1) fun x_22 =>
    if decide (x_22.V.N ≠ 0) then
      some (false, 0, x_7)
    else
      some (true, 0, (Sl.set x_7 r_14.1 (⟨x_22.Block, x_22.Number, (⟨x_22.V.Kind, 1, x_22.V.Block⟩ : Glychgateref06_Value), x_22.Readers, x_22.Writer⟩ : Glychgateref06_Cell)))
noncomputable def lychgateref06_Unlock (x_3 : Sl Bool) (x_5 : Sl Int) (x_7 : Sl Glychgateref06_Cell) (Used_8 : Int) (p_10 : Glychgateref06_Value) : Option (Int × (Sl Glychgateref06_Cell)) :=
  Option.bind (lychgateref06_whole x_3 x_5 x_7 Used_8 p_10) fun r_14 =>
  Option.bind (
      if decide (r_14.2 = 0) then
        Option.bind (gidx x_7 r_14.1) fun x_22 =>
        (some (Sl.set x_7 r_14.1 (⟨x_22.Block, x_22.Number, (⟨x_22.V.Kind, 0, x_22.V.Block⟩ : Glychgateref06_Value), x_22.Readers, x_22.Writer⟩ : Glychgateref06_Cell)) : Option ((Sl Glychgateref06_Cell)))
      else
        (some x_7 : Option ((Sl Glychgateref06_Cell)))) fun y_27 =>
  some (r_14.2, y_27)
noncomputable def lychgatelaw06_step_K1 (Used_12 : Int) (k_62 : Int × (Sl Gmem_Block)) (k_64 : Int × (Sl Bool)) (used_4 : Int) (x_11 : Sl Glychgateref06_Cell) (x_9 : Sl Int) (y_66 : Unit) : Option (Bool × (Sl Gmem_Block) × Int × (Sl Bool) × (Sl Int) × (Sl Glychgateref06_Cell) × Int) :=
  some (decide (k_62.1 = k_64.1), k_62.2, used_4, k_64.2, x_9, x_11, Used_12)
noncomputable def lychgatelaw06_step_K2 (Used_12 : Int) (k_105 : Int × (Sl Gmem_Block)) (k_107 : Int × (Sl Glychgateref06_Cell)) (used_4 : Int) (x_7 : Sl Bool) (x_9 : Sl Int) (y_109 : Unit) : Option (Bool × (Sl Gmem_Block) × Int × (Sl Bool) × (Sl Int) × (Sl Glychgateref06_Cell) × Int) :=
  some (decide (k_105.1 = k_107.1), k_105.2, used_4, x_7, x_9, k_107.2, Used_12)
noncomputable def lychgatelaw06_step_K3 (Used_12 : Int) (k_218 : Glychgateref06_Value × Int × (Sl Glychgateref06_Cell)) (r_206 : Gmem_Value × Int × (Sl Gmem_Block)) (used_4 : Int) (x_7 : Sl Bool) (x_9 : Sl Int) (y_220 : Unit) : Option (Bool × (Sl Gmem_Block) × Int × (Sl Bool) × (Sl Int) × (Sl Glychgateref06_Cell) × Int) :=
  Option.bind (lychgatelaw06_val r_206.1) fun r_227 =>
  some ((decide ((⟨r_206.1.Kind, r_206.1.N, r_206.1.Block⟩ : Glychgateref06_Value) = k_218.1) && decide (r_206.2.1 = k_218.2.1)), r_206.2.2, used_4, x_7, x_9, k_218.2.2, Used_12)
noncomputable def lychgatelaw06_step_K4 (Used_12 : Int) (k_302 : Int × (Sl Gmem_Block)) (k_304 : Int × (Sl Glychgateref06_Cell)) (used_4 : Int) (x_7 : Sl Bool) (x_9 : Sl Int) (y_306 : Unit) : Option (Bool × (Sl Gmem_Block) × Int × (Sl Bool) × (Sl Int) × (Sl Glychgateref06_Cell) × Int) :=
  some (decide (k_302.1 = k_304.1), k_302.2, used_4, x_7, x_9, k_304.2, Used_12)
noncomputable def lychgatelaw06_step (x_3 : Sl Gmem_Block) (used_4 : Int) (x_7 : Sl Bool) (x_9 : Sl Int) (x_11 : Sl Glychgateref06_Cell) (Used_12 : Int) (o_14 : Glychgatelaw06_Op) : Option (Bool × (Sl Gmem_Block) × Int × (Sl Bool) × (Sl Int) × (Sl Glychgateref06_Cell) × Int) :=
  Option.bind (lychgatelaw06_val o_14.P) fun r_18 =>
  if decide (o_14.Kind = 1) then
    Option.bind (mem_Memory_Alloc x_3 used_4 o_14.P.N) fun r_28 =>
    Option.bind (lychgateref06_Alloc x_7 x_9 x_11 Used_12 o_14.P.N) fun r_38 =>
    Option.bind (lychgatelaw06_val r_28.1) fun r_51 =>
    some ((decide ((⟨r_28.1.Kind, r_28.1.N, r_28.1.Block⟩ : Glychgateref06_Value) = r_38.1) && (r_28.2.1 == r_38.2.1)), r_28.2.2.1, r_28.2.2.2, r_38.2.2.1, r_38.2.2.2.1, r_38.2.2.2.2.1, r_38.2.2.2.2.2)
  else
    if decide (o_14.Kind = 2) then
      Option.bind (mem_Memory_Free x_3 used_4 o_14.P) fun k_62 =>
      Option.bind (lychgateref06_Free x_7 x_9 x_11 Used_12 (⟨o_14.P.Kind, o_14.P.N, o_14.P.Block⟩ : Glychgateref06_Value)) fun k_64 =>
      lychgatelaw06_step_K1 Used_12 k_62 k_64 used_4 x_11 x_9 ()
    else
      if decide (o_14.Kind = 3) then
        Option.bind (mem_Memory_Begin x_3 used_4 o_14.P o_14.Write) fun k_105 =>
        Option.bind (lychgateref06_Begin x_7 x_9 x_11 Used_12 (⟨o_14.P.Kind, o_14.P.N, o_14.P.Block⟩ : Glychgateref06_Value) o_14.Write) fun k_107 =>
        lychgatelaw06_step_K2 Used_12 k_105 k_107 used_4 x_7 x_9 ()
      else
        if decide (o_14.Kind = 4) then
          Option.bind (mem_Memory_End x_3 used_4 o_14.P o_14.Write o_14.V) fun r_206 =>
          Option.bind (lychgatelaw06_val o_14.V) fun k_216 =>
          Option.bind (lychgateref06_End x_7 x_9 x_11 Used_12 (⟨o_14.P.Kind, o_14.P.N, o_14.P.Block⟩ : Glychgateref06_Value) o_14.Write (⟨o_14.V.Kind, o_14.V.N, o_14.V.Block⟩ : Glychgateref06_Value)) fun k_218 =>
          lychgatelaw06_step_K3 Used_12 k_218 r_206 used_4 x_7 x_9 ()
        else
          if decide (o_14.Kind = 5) then
            Option.bind (mem_Memory_Lock x_3 used_4 o_14.P) fun r_285 =>
            Option.bind (lychgateref06_Lock x_7 x_9 x_11 Used_12 (⟨o_14.P.Kind, o_14.P.N, o_14.P.Block⟩ : Glychgateref06_Value)) fun r_292 =>
            some (((r_285.1 == r_292.1) && decide (r_285.2.1 = r_292.2.1)), r_285.2.2, used_4, x_7, x_9, r_292.2.2, Used_12)
          else
            if decide (o_14.Kind = 6) then
              Option.bind (mem_Memory_Unlock x_3 used_4 o_14.P) fun k_302 =>
              Option.bind (lychgateref06_Unlock x_7 x_9 x_11 Used_12 (⟨o_14.P.Kind, o_14.P.N, o_14.P.Block⟩ : Glychgateref06_Value)) fun k_304 =>
              lychgatelaw06_step_K4 Used_12 k_302 k_304 used_4 x_7 x_9 ()
            else
              some (true, x_3, used_4, x_7, x_9, x_11, Used_12)
noncomputable def slices_Clone (x_2 : Sl Gmem_Value) : Option ((Sl Gmem_Value)) :=
  if !x_2.nn then
    some (⟨[], false⟩ : Sl Gmem_Value)
  else
    Option.bind (gapp 24 (⟨[], true⟩ : Sl Gmem_Value) x_2.xs) fun s_8 =>
    some s_8
noncomputable def slices_Clone_v2 (x_2 : Sl Int) : Option ((Sl Int)) :=
  if !x_2.nn then
    some (⟨[], false⟩ : Sl Int)
  else
    Option.bind (gapp 8 (⟨[], true⟩ : Sl Int) x_2.xs) fun s_8 =>
    some s_8
noncomputable def slices_Clone_v3 (x_2 : Sl Bool) : Option ((Sl Bool)) :=
  if !x_2.nn then
    some (⟨[], false⟩ : Sl Bool)
  else
    Option.bind (gapp 1 (⟨[], true⟩ : Sl Bool) x_2.xs) fun s_8 =>
    some s_8
noncomputable def mem_Memory_Blocks_L1 (x_3 : Sl Gmem_Block) (x_6 : (Sl Gmem_Block) × Int) : Option (Step ((Sl Gmem_Block) × Int) ((Sl Gmem_Block))) :=
  if decide (x_6.2 < x_3.len) then
    Option.bind (gidx x_3 x_6.2) fun x_13 =>
    Option.bind (slices_Clone x_13.Cells) fun r_30 =>
    Option.bind (slices_Clone_v2 x_13.Readers) fun r_41 =>
    Option.bind (slices_Clone_v3 x_13.Writer) fun r_52 =>
    Option.bind (gapp 80 x_6.1 [(⟨x_13.Live, r_30, r_41, r_52⟩ : Gmem_Block)]) fun s_71 =>
    some (.next (s_71, IntKind.i64.wrap (x_6.2 + 1)))
  else
    some (.done x_6.1)
noncomputable def mem_Memory_Blocks (x_3 : Sl Gmem_Block) (used_4 : Int) : Option ((Sl Gmem_Block)) :=
  Option.bind (loopO (mem_Memory_Blocks_L1 x_3) ((⟨[], false⟩ : Sl Gmem_Block), 0)) fun y_74 =>
  some y_74
noncomputable def lychgatelaw06_sameMemory_L1 (x_10 : Sl Glychgateref06_Cell) (x_19 : Gmem_Block) (x_53 : Int × Int) : Option (Step (Int × Int) (W2 Int Unit)) :=
  if decide (x_53.2 < x_19.Cells.len) then
    Option.bind (gidx x_10 x_53.1) fun x_58 =>
    Option.bind (gidx x_19.Cells x_53.2) fun x_65 =>
    Option.bind (lychgatelaw06_val x_65) fun r_69 =>
    Option.bind (if !(decide ((⟨x_65.Kind, x_65.N, x_65.Block⟩ : Glychgateref06_Value) = x_58.V)) then
        some true
      else
        Option.bind (gidx x_19.Readers x_53.2) fun x_79 =>
        some (decide (x_79 ≠ x_58.Readers))) fun y_78 =>
    Option.bind (if y_78 then
        some true
      else
        Option.bind (gidx x_19.Writer x_53.2) fun x_89 =>
        some (x_89 != x_58.Writer)) fun y_88 =>
    if y_88 then
      some (.done (.b ()))
    else
      some (.next (IntKind.i64.wrap (x_53.1 + 1), IntKind.i64.wrap (x_53.2 + 1)))
  else
    some (.done (.a x_53.1))
noncomputable def lychgatelaw06_sameMemory_L2 (x_10 : Sl Glychgateref06_Cell) (x_2 : Sl Gmem_Block) (x_6 : Sl Bool) (x_8 : Sl Int) (x_14 : Int × Int) : Option (Step (Int × Int) (W2 Unit Unit)) :=
  if decide (x_14.2 < x_2.len) then
    Option.bind (gidx x_2 x_14.2) fun x_19 =>
    Option.bind (gidx x_6 x_14.2) fun x_36 =>
    Option.bind (if (x_19.Live != x_36) then
        some true
      else
        Option.bind (gidx x_8 x_14.2) fun x_42 =>
        some (decide (x_19.Cells.len ≠ x_42))) fun y_41 =>
    if ((y_41 || decide (x_19.Readers.len ≠ x_19.Cells.len)) || decide (x_19.Writer.len ≠ x_19.Cells.len)) then
      some (.done (.b ()))
    else
      Option.bind (loopO (lychgatelaw06_sameMemory_L1 x_10 x_19) (x_14.1, 0)) fun y_98 =>
      match y_98 with
      | .a y_99 =>
        some (.next (y_99, IntKind.i64.wrap (x_14.2 + 1)))
      | .b y_103 =>
        some (.done (.b ()))
  else
    some (.done (.a ()))
noncomputable def lychgatelaw06_sameMemory (x_2 : Sl Gmem_Block) (used_3 : Int) (x_6 : Sl Bool) (x_8 : Sl Int) (x_10 : Sl Glychgateref06_Cell) (Used_11 : Int) : Option Bool :=
  if (decide (x_2.len ≠ x_6.len) || decide (used_3 ≠ Used_11)) then
    some false
  else
    Option.bind (loopO (lychgatelaw06_sameMemory_L2 x_10 x_2 x_6 x_8) (0, 0)) fun y_107 =>
    match y_107 with
    | .a y_108 =>
      some true
    | .b y_112 =>
      some false
noncomputable def lychgatelaw06_MemPlays_L1 (s_27 : Sl Glychgatelaw06_Op) (x_32 : (Sl Gmem_Block) × Int × (Sl Bool) × (Sl Int) × (Sl Glychgateref06_Cell) × Int × Int) : Option (Step ((Sl Gmem_Block) × Int × (Sl Bool) × (Sl Int) × (Sl Glychgateref06_Cell) × Int × Int) (W2 Unit Unit)) :=
  if decide (x_32.2.2.2.2.2.2 < s_27.len) then
    Option.bind (gidx s_27 x_32.2.2.2.2.2.2) fun x_44 =>
    Option.bind (lychgatelaw06_step x_32.1 x_32.2.1 x_32.2.2.1 x_32.2.2.2.1 x_32.2.2.2.2.1 x_32.2.2.2.2.2.1 x_44) fun r_50 =>
    Option.bind (if !r_50.1 then
        some true
      else
        Option.bind (mem_Memory_Blocks r_50.2.1 r_50.2.2.1) fun r_63 =>
        Option.bind (mem_Memory_Used r_50.2.1 r_50.2.2.1) fun r_72 =>
        Option.bind (lychgatelaw06_sameMemory r_63 r_50.2.2.1 r_50.2.2.2.1 r_50.2.2.2.2.1 r_50.2.2.2.2.2.1 r_50.2.2.2.2.2.2) fun r_79 =>
        some (!r_79)) fun y_62 =>
    if y_62 then
      some (.done (.b ()))
    else
      some (.next (r_50.2.1, r_50.2.2.1, r_50.2.2.2.1, r_50.2.2.2.2.1, r_50.2.2.2.2.2.1, r_50.2.2.2.2.2.2, IntKind.i64.wrap (x_32.2.2.2.2.2.2 + 1)))
  else
    some (.done (.a ()))
noncomputable def lychgatelaw06_MemPlays (script_2 : Sl Glychgatelaw06_Op) : Option Bool :=
  Option.bind (mem_New) fun r_4 =>
  Option.bind (lychgatelaw06_wakes) fun r_17 =>
  if !r_17 then
    some false
  else
    Option.bind (gslice script_2 0 (if 300 < script_2.len then 300 else script_2.len)) fun s_27 =>
    Option.bind (loopO (lychgatelaw06_MemPlays_L1 s_27) (r_4, 0, (⟨[], false⟩ : Sl Bool), (⟨[], false⟩ : Sl Int), (⟨[], false⟩ : Sl Glychgateref06_Cell), 0, 0)) fun y_90 =>
    match y_90 with
    | .a y_91 =>
      some true
    | .b y_95 =>
      some false
noncomputable def mem_Memory_Alloc_v2 (n_1 : Int) : Option Unit :=
  some ()
noncomputable def mem_Memory_block_v2 (p_2 : Gmem_Value) : Option Int :=
  if decide (p_2.Kind ≠ 2) then
    some 1
  else
    some 2
noncomputable def mem_Memory_cell_v2 (p_2 : Gmem_Value) : Option Int :=
  Option.bind (mem_Memory_block_v2 p_2) fun r_6 =>
  Option.bind (if decide (r_6 = 0) then
      Option.bind (if decide (p_2.N < 0) then
          some ()
        else
          none) fun y_17 =>
      some true
    else
      some false) fun y_15 =>
  if y_15 then
    some 3
  else
    some r_6
noncomputable def mem_Memory_End_v2 (p_2 : Gmem_Value) (write_4 : Bool) (v_6 : Gmem_Value) : Option Int :=
  Option.bind (mem_Memory_cell_v2 p_2) fun r_14 =>
  if decide (r_14 ≠ 0) then
    some r_14
  else
    Option.bind (if write_4 then
        none
      else
        some ()) fun y_24 =>
    Option.bind (if !write_4 then
        none
      else
        some ()) fun y_30 =>
    if write_4 then
      none
    else
      none
noncomputable def mem_Memory_whole_v2 (p_2 : Gmem_Value) : Option Int :=
  Option.bind (mem_Memory_cell_v2 p_2) fun r_6 =>
  if decide (r_6 ≠ 0) then
    some r_6
  else
    none
noncomputable def mem_Memory_Lock_v2 (p_2 : Gmem_Value) : Option Int :=
  Option.bind (mem_Memory_whole_v2 p_2) fun r_6 =>
  Option.bind (if decide (r_6 ≠ 0) then
      some ()
    else
      none) fun y_15 =>
  some r_6
noncomputable def mem_Memory_Free_v2 (p_2 : Gmem_Value) : Option Int :=
  Option.bind (mem_Memory_block_v2 p_2) fun r_6 =>
  if decide (r_6 ≠ 0) then
    some r_6
  else
    if decide (p_2.N ≠ 0) then
      some 5
    else
      none
noncomputable def mem_Memory_Begin_v2 (p_2 : Gmem_Value) (write_4 : Bool) : Option Int :=
  Option.bind (mem_Memory_cell_v2 p_2) fun r_7 =>
  Option.bind (
      Option.bind (
          if decide (r_7 ≠ 0) then
            (some () : Option Unit)
          else
            none) fun y_16 =>
      (some () : Option Unit)) fun y_20 =>
  some r_7
noncomputable def mem_Memory_Unlock_v2 (p_2 : Gmem_Value) : Option Int :=
  Option.bind (mem_Memory_whole_v2 p_2) fun r_6 =>
  Option.bind (
      if decide (r_6 = 0) then
        none
      else
        (some () : Option Unit)) fun y_15 =>
  some r_6
noncomputable def mem_Memory_Blocks_v2  : Option Unit :=
  some ()
noncomputable def mem_Memory_Used_v2  : Option Unit :=
  some ()
noncomputable def lychgatelaw06_MemTwins_L1 (one_2 : Sl Glychgatelaw06_Op) (two_5 : Sl Glychgatelaw06_Op) (x_155 : (Sl Gmem_Block) × Int × (Sl Gmem_Block) × Int × (Sl Bool) × (Sl Int) × (Sl Glychgateref06_Cell) × Int × (Sl Bool) × (Sl Int) × (Sl Glychgateref06_Cell) × Int × Int) : Option (Step ((Sl Gmem_Block) × Int × (Sl Gmem_Block) × Int × (Sl Bool) × (Sl Int) × (Sl Glychgateref06_Cell) × Int × (Sl Bool) × (Sl Int) × (Sl Glychgateref06_Cell) × Int × Int) (W2 ((Sl Gmem_Block) × Int × (Sl Gmem_Block) × Int × (Sl Bool) × (Sl Int) × (Sl Glychgateref06_Cell) × Int × (Sl Bool) × (Sl Int) × (Sl Glychgateref06_Cell) × Int) Unit)) :=
  if (decide (x_155.2.2.2.2.2.2.2.2.2.2.2.2 < 200) && (decide (x_155.2.2.2.2.2.2.2.2.2.2.2.2 < one_2.len) || decide (x_155.2.2.2.2.2.2.2.2.2.2.2.2 < two_5.len))) then
    Option.bind (if decide (x_155.2.2.2.2.2.2.2.2.2.2.2.2 < one_2.len) then
        Option.bind (gidx one_2 x_155.2.2.2.2.2.2.2.2.2.2.2.2) fun x_172 =>
        Option.bind (lychgatelaw06_step x_155.1 x_155.2.1 x_155.2.2.2.2.1 x_155.2.2.2.2.2.1 x_155.2.2.2.2.2.2.1 x_155.2.2.2.2.2.2.2.1 x_172) fun r_176 =>
        some (r_176.2.1, r_176.2.2.1, r_176.2.2.2.1, r_176.2.2.2.2.1, r_176.2.2.2.2.2.1, r_176.2.2.2.2.2.2, !r_176.1)
      else
        some (x_155.1, x_155.2.1, x_155.2.2.2.2.1, x_155.2.2.2.2.2.1, x_155.2.2.2.2.2.2.1, x_155.2.2.2.2.2.2.2.1, false)) fun y_171 =>
    Option.bind (if y_171.2.2.2.2.2.2 then
        some (x_155.2.2.1, x_155.2.2.2.1, x_155.2.2.2.2.2.2.2.2.1, x_155.2.2.2.2.2.2.2.2.2.1, x_155.2.2.2.2.2.2.2.2.2.2.1, x_155.2.2.2.2.2.2.2.2.2.2.2.1, true)
      else
        Option.bind (if decide (x_155.2.2.2.2.2.2.2.2.2.2.2.2 < two_5.len) then
            Option.bind (gidx two_5 x_155.2.2.2.2.2.2.2.2.2.2.2.2) fun x_198 =>
            Option.bind (lychgatelaw06_step x_155.2.2.1 x_155.2.2.2.1 x_155.2.2.2.2.2.2.2.2.1 x_155.2.2.2.2.2.2.2.2.2.1 x_155.2.2.2.2.2.2.2.2.2.2.1 x_155.2.2.2.2.2.2.2.2.2.2.2.1 x_198) fun r_202 =>
            some (r_202.2.1, r_202.2.2.1, r_202.2.2.2.1, r_202.2.2.2.2.1, r_202.2.2.2.2.2.1, r_202.2.2.2.2.2.2, !r_202.1)
          else
            some (x_155.2.2.1, x_155.2.2.2.1, x_155.2.2.2.2.2.2.2.2.1, x_155.2.2.2.2.2.2.2.2.2.1, x_155.2.2.2.2.2.2.2.2.2.2.1, x_155.2.2.2.2.2.2.2.2.2.2.2.1, false)) fun y_197 =>
        some (y_197.1, y_197.2.1, y_197.2.2.1, y_197.2.2.2.1, y_197.2.2.2.2.1, y_197.2.2.2.2.2.1, y_197.2.2.2.2.2.2)) fun y_195 =>
    if y_195.2.2.2.2.2.2 then
      some (.done (.b ()))
    else
      some (.next (y_171.1, y_171.2.1, y_195.1, y_195.2.1, y_171.2.2.1, y_171.2.2.2.1, y_171.2.2.2.2.1, y_171.2.2.2.2.2.1, y_195.2.2.1, y_195.2.2.2.1, y_195.2.2.2.2.1, y_195.2.2.2.2.2.1, IntKind.i64.wrap (x_155.2.2.2.2.2.2.2.2.2.2.2.2 + 1)))
  else
    some (.done (.a (x_155.1, x_155.2.1, x_155.2.2.1, x_155.2.2.2.1, x_155.2.2.2.2.1, x_155.2.2.2.2.2.1, x_155.2.2.2.2.2.2.1, x_155.2.2.2.2.2.2.2.1, x_155.2.2.2.2.2.2.2.2.1, x_155.2.2.2.2.2.2.2.2.2.1, x_155.2.2.2.2.2.2.2.2.2.2.1, x_155.2.2.2.2.2.2.2.2.2.2.2.1)))
noncomputable def lychgatelaw06_MemTwins_K1 (k_279 : Sl Gmem_Value) (k_283 : Sl Int) (k_287 : Sl Bool) (x_271 : (Sl Gmem_Value) × (Sl Int) × (Sl Bool) × Int) (y_289 : Unit) : Option (Step ((Sl Gmem_Value) × (Sl Int) × (Sl Bool) × Int) ((Sl Gmem_Block))) :=
  some (.next (k_279, k_283, k_287, IntKind.i64.wrap (x_271.2.2.2 + 1)))
noncomputable def lychgatelaw06_MemTwins_L2 (x_250 : (Sl Gmem_Block) × Int) (x_255 : Gmem_Block) (x_271 : (Sl Gmem_Value) × (Sl Int) × (Sl Bool) × Int) : Option (Step ((Sl Gmem_Value) × (Sl Int) × (Sl Bool) × Int) ((Sl Gmem_Block))) :=
  if decide (x_271.2.2.2 < x_255.Cells.len) then
    Option.bind (gidx x_271.1 x_271.2.2.2) fun x_277 =>
    Option.bind (gset x_271.1 x_271.2.2.2 (⟨2, 0, 1⟩ : Gmem_Value)) fun k_279 =>
    Option.bind (gidx x_271.2.1 x_271.2.2.2) fun k_281 =>
    Option.bind (gset x_271.2.1 x_271.2.2.2 9) fun k_283 =>
    Option.bind (gidx x_271.2.2.1 x_271.2.2.2) fun k_285 =>
    Option.bind (gset x_271.2.2.1 x_271.2.2.2 true) fun k_287 =>
    lychgatelaw06_MemTwins_K1 k_279 k_283 k_287 x_271 ()
  else
    some (.done (Sl.set x_250.1 x_250.2 (⟨x_255.Live, x_271.1, x_271.2.1, x_271.2.2.1⟩ : Gmem_Block)))
noncomputable def lychgatelaw06_MemTwins_L3 (r_241 : (Sl Gmem_Block)) (x_250 : (Sl Gmem_Block) × Int) : Option (Step ((Sl Gmem_Block) × Int) Unit) :=
  if decide (x_250.2 < r_241.len) then
    Option.bind (gidx x_250.1 x_250.2) fun x_255 =>
    Option.bind (loopO (lychgatelaw06_MemTwins_L2 x_250 x_255) (x_255.Cells, x_255.Readers, x_255.Writer, 0)) fun y_372 =>
    some (.next (y_372, IntKind.i64.wrap (x_250.2 + 1)))
  else
    some (.done ())
noncomputable def lychgatelaw06_MemTwins (one_2 : Sl Glychgatelaw06_Op) (two_5 : Sl Glychgatelaw06_Op) : Option Bool :=
  Option.bind (mem_New) fun r_7 =>
  Option.bind (mem_Memory_Alloc_v2 1) fun r_35 =>
  Option.bind (mem_Memory_End_v2 (⟨2, 0, 1⟩ : Gmem_Value) true (⟨2, 0, 1⟩ : Gmem_Value)) fun r_44 =>
  Option.bind (mem_Memory_Lock_v2 (⟨2, 0, 1⟩ : Gmem_Value)) fun r_53 =>
  Option.bind (lychgatelaw06_wakes) fun r_60 =>
  Option.bind (if (!r_60 || false) then
      some ((⟨[], false⟩ : Sl Bool), (⟨[], false⟩ : Sl Int), (⟨[], false⟩ : Sl Glychgateref06_Cell), (⟨[], false⟩ : Sl Bool), (⟨[], false⟩ : Sl Int), (⟨[], false⟩ : Sl Glychgateref06_Cell), true)
    else
      Option.bind (mem_Memory_Free_v2 (⟨2, 0, 1⟩ : Gmem_Value)) fun r_70 =>
      some ((⟨[], false⟩ : Sl Bool), (⟨[], false⟩ : Sl Int), (⟨[], false⟩ : Sl Glychgateref06_Cell), (⟨[], false⟩ : Sl Bool), (⟨[], false⟩ : Sl Int), (⟨[], false⟩ : Sl Glychgateref06_Cell), decide (r_70 ≠ 2))) fun y_69 =>
  Option.bind (if y_69.2.2.2.2.2.2 then
      some true
    else
      Option.bind (mem_Memory_Begin_v2 (⟨0, 0, 0⟩ : Gmem_Value) true) fun r_106 =>
      some (decide (r_106 ≠ 1))) fun y_105 =>
  Option.bind (if ((y_105 || decide (r_44 ≠ 2)) || decide (r_53 ≠ 2)) then
      some true
    else
      Option.bind (mem_Memory_Unlock_v2 (⟨2, 0, 1⟩ : Gmem_Value)) fun r_120 =>
      some (decide (r_120 ≠ 2))) fun y_119 =>
  Option.bind (if y_119 then
      some true
    else
      Option.bind (mem_Memory_Blocks_v2) fun r_132 =>
      some (decide ((0 : Int) ≠ 0))) fun y_131 =>
  Option.bind (if y_131 then
      some true
    else
      Option.bind (mem_Memory_Used_v2) fun r_144 =>
      some (decide ((0 : Int) ≠ 0))) fun y_143 =>
  if y_143 then
    some false
  else
    Option.bind (loopO (lychgatelaw06_MemTwins_L1 one_2 two_5) (r_7, 0, r_7, 0, y_69.1, y_69.2.1, y_69.2.2.1, 0, y_69.2.2.2.1, y_69.2.2.2.2.1, y_69.2.2.2.2.2.1, 0, 0)) fun y_228 =>
    match y_228 with
    | .a y_229 =>
      Option.bind (mem_Memory_Blocks y_229.1 y_229.2.1) fun r_241 =>
      Option.bind (loopO (lychgatelaw06_MemTwins_L3 r_241) (r_241, 0)) fun y_376 =>
      Option.bind (mem_Memory_Used y_229.1 y_229.2.1) fun r_389 =>
      Option.bind (lychgatelaw06_sameMemory r_241 y_229.2.1 y_229.2.2.2.2.1 y_229.2.2.2.2.2.1 y_229.2.2.2.2.2.2.1 y_229.2.2.2.2.2.2.2.1) fun r_396 =>
      Option.bind (if r_396 then
          Option.bind (mem_Memory_Blocks y_229.2.2.1 y_229.2.2.2.1) fun r_405 =>
          Option.bind (mem_Memory_Used y_229.2.2.1 y_229.2.2.2.1) fun r_414 =>
          Option.bind (lychgatelaw06_sameMemory r_405 y_229.2.2.2.1 y_229.2.2.2.2.2.2.2.2.1 y_229.2.2.2.2.2.2.2.2.2.1 y_229.2.2.2.2.2.2.2.2.2.2.1 y_229.2.2.2.2.2.2.2.2.2.2.2) fun r_421 =>
          some r_421
        else
          some false) fun y_404 =>
      some y_404
    | .b y_431 =>
      some false
noncomputable def lychgatelaw06_MemRefused_L1 (x_173 : Gmem_Block) (x_177 : Gmem_Block) (x_184 : Int × Int) : Option (Step (Int × Int) (W2 Int Unit)) :=
  if decide (x_184.2 < x_173.Cells.len) then
    Option.bind (gidx x_173.Cells x_184.2) fun x_192 =>
    Option.bind (gidx x_177.Cells x_184.2) fun x_198 =>
    Option.bind (if !(decide (x_192 = x_198)) then
        some true
      else
        Option.bind (gidx x_173.Writer x_184.2) fun x_206 =>
        Option.bind (gidx x_177.Writer x_184.2) fun x_212 =>
        some (x_206 != x_212)) fun y_203 =>
    if y_203 then
      some (.done (.b ()))
    else
      Option.bind (gidx x_173.Readers x_184.2) fun x_224 =>
      Option.bind (gidx x_177.Readers x_184.2) fun x_230 =>
      some (.next (IntKind.i64.wrap (x_184.1 + (IntKind.i64.wrap (x_224 - x_230))), IntKind.i64.wrap (x_184.2 + 1)))
  else
    some (.done (.a x_184.1))
noncomputable def lychgatelaw06_MemRefused_L2 (r_141 : (Sl Gmem_Block)) (r_38 : (Sl Gmem_Block)) (x_167 : Int × Int) : Option (Step (Int × Int) (W2 Int Unit)) :=
  if decide (x_167.2 < r_38.len) then
    Option.bind (gidx r_38 x_167.2) fun x_173 =>
    Option.bind (gidx r_141 x_167.2) fun x_177 =>
    if (x_173.Live != x_177.Live) then
      some (.done (.b ()))
    else
      Option.bind (loopO (lychgatelaw06_MemRefused_L1 x_173 x_177) (x_167.1, 0)) fun y_234 =>
      match y_234 with
      | .a y_235 =>
        some (.next (y_235, IntKind.i64.wrap (x_167.2 + 1)))
      | .b y_239 =>
        some (.done (.b ()))
  else
    some (.done (.a x_167.1))
noncomputable def lychgatelaw06_MemRefused_L3 (s_25 : Sl Glychgatelaw06_Op) (x_27 : (Sl Gmem_Block) × Int × Int) : Option (Step ((Sl Gmem_Block) × Int × Int) (W2 Unit Unit)) :=
  if decide (x_27.2.2 < s_25.len) then
    Option.bind (
        Option.bind (gidx s_25 x_27.2.2) fun x_32 =>
        Option.bind (mem_Memory_Blocks x_27.1 x_27.2.1) fun r_38 =>
        Option.bind (mem_Memory_Used x_27.1 x_27.2.1) fun r_50 =>
        Option.bind (
            Option.bind (
                if decide (x_32.Kind = 1) then
                  Option.bind (mem_Memory_Alloc x_27.1 x_27.2.1 x_32.P.N) fun r_58 =>
                  (some (r_58.2.2.1, r_58.2.2.2, !r_58.2.1, false) : Option ((Sl Gmem_Block) × Int × Bool × Bool))
                else
                  Option.bind (
                      if decide (x_32.Kind = 2) then
                        Option.bind (mem_Memory_Free x_27.1 x_27.2.1 x_32.P) fun r_69 =>
                        (some (r_69.2, decide (r_69.1 ≠ 0), false) : Option ((Sl Gmem_Block) × Bool × Bool))
                      else
                        Option.bind (
                            if decide (x_32.Kind = 3) then
                              Option.bind (mem_Memory_Begin x_27.1 x_27.2.1 x_32.P x_32.Write) fun r_77 =>
                              (some (r_77.2, decide (r_77.1 ≠ 0), false) : Option ((Sl Gmem_Block) × Bool × Bool))
                            else
                              Option.bind (
                                  if decide (x_32.Kind = 4) then
                                    Option.bind (mem_Memory_End x_27.1 x_27.2.1 x_32.P x_32.Write x_32.V) fun r_85 =>
                                    (some (r_85.2.2, decide (r_85.2.1 ≠ 0), decide (r_85.2.1 = 4)) : Option ((Sl Gmem_Block) × Bool × Bool))
                                  else
                                    Option.bind (
                                        if decide (x_32.Kind = 5) then
                                          Option.bind (mem_Memory_Lock x_27.1 x_27.2.1 x_32.P) fun r_95 =>
                                          (some (r_95.2.2, (decide (r_95.2.1 ≠ 0) || !r_95.1)) : Option ((Sl Gmem_Block) × Bool))
                                        else
                                          Option.bind (
                                              if decide (x_32.Kind = 6) then
                                                Option.bind (mem_Memory_Unlock x_27.1 x_27.2.1 x_32.P) fun r_104 =>
                                                (some (r_104.2, decide (r_104.1 ≠ 0)) : Option ((Sl Gmem_Block) × Bool))
                                              else
                                                (some (x_27.1, false) : Option ((Sl Gmem_Block) × Bool))) fun y_111 =>
                                          (some (y_111.1, y_111.2) : Option ((Sl Gmem_Block) × Bool))) fun y_115 =>
                                    (some (y_115.1, y_115.2, false) : Option ((Sl Gmem_Block) × Bool × Bool))) fun y_119 =>
                              (some (y_119.1, y_119.2.1, y_119.2.2) : Option ((Sl Gmem_Block) × Bool × Bool))) fun y_123 =>
                        (some (y_123.1, y_123.2.1, y_123.2.2) : Option ((Sl Gmem_Block) × Bool × Bool))) fun y_127 =>
                  (some (y_127.1, x_27.2.1, y_127.2.1, y_127.2.2) : Option ((Sl Gmem_Block) × Int × Bool × Bool))) fun y_131 =>
            (some (y_131.1, y_131.2.1, y_131.2.2.1, y_131.2.2.2) : Option ((Sl Gmem_Block) × Int × Bool × Bool))) fun y_136 =>
        Option.bind (mem_Memory_Blocks y_136.1 y_136.2.1) fun r_141 =>
        if !y_136.2.2.1 then
          (some (.a (y_136.1, y_136.2.1)) : Option (W2 ((Sl Gmem_Block) × Int) Unit))
        else
          Option.bind (if decide (r_141.len ≠ r_38.len) then
              some true
            else
              Option.bind (mem_Memory_Used y_136.1 y_136.2.1) fun r_156 =>
              some (decide (y_136.2.1 ≠ x_27.2.1))) fun y_155 =>
          if y_155 then
            (some (.b ()) : Option (W2 ((Sl Gmem_Block) × Int) Unit))
          else
            Option.bind (loopO (lychgatelaw06_MemRefused_L2 r_141 r_38) (0, 0)) fun y_243 =>
            match y_243 with
            | .a y_244 =>
              if ((y_136.2.2.2 != (decide (y_244 = 1))) || (!y_136.2.2.2 && decide (y_244 ≠ 0))) then
                (some (.b ()) : Option (W2 ((Sl Gmem_Block) × Int) Unit))
              else
                (some (.a (y_136.1, y_136.2.1)) : Option (W2 ((Sl Gmem_Block) × Int) Unit))
            | .b y_251 =>
              (some (.b ()) : Option (W2 ((Sl Gmem_Block) × Int) Unit))) fun y_255 =>
    match y_255 with
    | .a y_256 =>
      some (.next (y_256.1, y_256.2, IntKind.i64.wrap (x_27.2.2 + 1)))
    | .b y_260 =>
      some (.done (.b ()))
  else
    some (.done (.a ()))
noncomputable def lychgatelaw06_MemRefused (script_2 : Sl Glychgatelaw06_Op) : Option Bool :=
  Option.bind (mem_New) fun r_4 =>
  Option.bind (lychgatelaw06_wakes) fun r_15 =>
  if !r_15 then
    some false
  else
    Option.bind (gslice script_2 0 (if 100 < script_2.len then 100 else script_2.len)) fun s_25 =>
    Option.bind (loopO (lychgatelaw06_MemRefused_L3 s_25) (r_4, 0, 0)) fun y_263 =>
    match y_263 with
    | .a y_264 =>
      some true
    | .b y_267 =>
      some false
noncomputable def lychgatelaw06_MemWrites_L1 (r_100 : (Sl Gmem_Block)) (s_98 : Sl Gmem_Value) (x_112 : Int) : Option (Step Int (W2 Unit Unit)) :=
  if decide (x_112 < 8) then
    Option.bind (gdiv .i64 x_112 4) fun q_118 =>
    Option.bind (gidx r_100 q_118) fun x_120 =>
    Option.bind (gmod .i64 x_112 4) fun q_124 =>
    Option.bind (gidx x_120.Cells q_124) fun x_126 =>
    Option.bind (gidx s_98 x_112) fun x_130 =>
    if !(decide (x_126 = x_130)) then
      some (.done (.b ()))
    else
      some (.next (IntKind.i64.wrap (x_112 + 1)))
  else
    some (.done (.a ()))
noncomputable def lychgatelaw06_MemWrites_L2 (cells_2 : Sl Int) (r_26 : Gmem_Value × Bool × (Sl Gmem_Block) × Int) (r_36 : Gmem_Value × Bool × (Sl Gmem_Block) × Int) (values_5 : Sl Int) (x_48 : (Sl Gmem_Block) × (Sl Gmem_Value) × Int) : Option (Step ((Sl Gmem_Block) × (Sl Gmem_Value) × Int) (W2 Unit Unit)) :=
  if decide (x_48.2.2 < cells_2.len) then
    Option.bind (gidx cells_2 x_48.2.2) fun x_52 =>
    Option.bind (gmod .i64 (if 0 < x_52 then x_52 else 0) 8) fun q_56 =>
    Option.bind (
        if decide (3 < q_56) then
          (some r_36.1 : Option Gmem_Value)
        else
          (some r_26.1 : Option Gmem_Value)) fun y_61 =>
    Option.bind (gmod .i64 q_56 4) fun q_65 =>
    Option.bind (
        if decide (x_48.2.2 < values_5.len) then
          Option.bind (gidx values_5 x_48.2.2) fun x_70 =>
          (some (⟨1, x_70, 0⟩ : Gmem_Value) : Option Gmem_Value)
        else
          (some (⟨2, x_48.2.2, q_56⟩ : Gmem_Value) : Option Gmem_Value)) fun y_74 =>
    Option.bind (mem_Memory_Begin x_48.1 r_36.2.2.2 (⟨y_61.Kind, q_65, y_61.Block⟩ : Gmem_Value) true) fun r_78 =>
    if decide (r_78.1 ≠ 0) then
      some (.done (.b ()))
    else
      Option.bind (mem_Memory_End r_78.2 r_36.2.2.2 (⟨y_61.Kind, q_65, y_61.Block⟩ : Gmem_Value) true y_74) fun r_86 =>
      if decide (r_86.2.1 ≠ 0) then
        some (.done (.b ()))
      else
        Option.bind (gidx x_48.2.1 q_56) fun x_96 =>
        Option.bind (gset x_48.2.1 q_56 y_74) fun s_98 =>
        Option.bind (mem_Memory_Blocks r_86.2.2 r_36.2.2.2) fun r_100 =>
        Option.bind (loopO (lychgatelaw06_MemWrites_L1 r_100 s_98) 0) fun y_135 =>
        match y_135 with
        | .a y_136 =>
          some (.next (r_86.2.2, s_98, IntKind.i64.wrap (x_48.2.2 + 1)))
        | .b y_140 =>
          some (.done (.b ()))
  else
    some (.done (.a ()))
noncomputable def lychgatelaw06_MemWrites (cells_2 : Sl Int) (values_5 : Sl Int) : Option Bool :=
  Option.bind (lychgatelaw06_wakes) fun r_7 =>
  if !r_7 then
    some false
  else
    Option.bind (mem_New) fun r_15 =>
    Option.bind (mem_Memory_Alloc r_15 0 4) fun r_26 =>
    Option.bind (mem_Memory_Alloc r_26.2.2.1 r_26.2.2.2 4) fun r_36 =>
    Option.bind (loopO (lychgatelaw06_MemWrites_L2 cells_2 r_26 r_36 values_5) (r_36.2.2.1, (⟨List.replicate 8 (⟨0, 0, 0⟩ : Gmem_Value), true⟩ : Sl Gmem_Value), 0)) fun y_144 =>
    match y_144 with
    | .a y_145 =>
      some true
    | .b y_148 =>
      some false
end Go.Px
